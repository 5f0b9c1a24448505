/- Functions of data for functions of the program. Written by dec3.py. -/
import Derived.Test.YtaofbminodhcnaaZcay
import Derived.Test.YtaofbminodhcnaaZcaz
set_option linter.unusedVariables false
set_option linter.unusedSimpArgs false
set_option maxHeartbeats 4000000
set_option maxRecDepth 100000
namespace Go.Proofs.Ytaofbminodhcnaa
open Go.RowKit
noncomputable def Xq(a0:Int)(a1:Int)(a2:List Token)(a3:Int)(a4:Int)(a5:Int)(a6:MI):Option (Int×Int×Int) :=
 if(eqI a3 0)=true then if(0:Int)≤a0∧a0.toNat<a2.length then if(0:Int)≤a0∧a0.toNat<a2.length then some (a1,(a2.getD a0.toNat default).File,(a2.getD a0.toNat default).At) else none else none else some (a3,a4,a5)
noncomputable def Z8(a0:Int)(a1:Int)(a2:List Token)(a3:Int)(a4:Int)(a5:Int)(a6:MI)(r:(Int×Int×Int)):GI :=
 ⟨[.c (.pt 1 0),.c (.d (.v (.int .i64 a0))),.c (.d (.v (.int .i64 a1)))],[[.d (.sl 11 (List.map Jb a2)),.mo 2,.d (.v (.int .i64 a3)),.d (.v (.int .i64 a4)),.d (.v (.int .i64 a5))],[.ob (KMI a6)]],[],.ret (.tu []) [[.d (.sl 11 (List.map Jb a2)),.mo 2,.d (.v (.int .i64 r.1)),.d (.v (.int .i64 r.2.1)),.d (.v (.int .i64 r.2.2))],[.ob (KMI a6)]] []⟩
def ZX:GI→Prop:=fun g=>∃ (a0:Int) (a1:Int) (a2:List Token) (a3:Int) (a4:Int) (a5:Int) (a6:MI) (r:(Int×Int×Int)),Xq a0 a1 a2 a3 a4 a5 a6=some r∧g=Z8 a0 a1 a2 a3 a4 a5 a6 r
theorem JgH(a0:Int)(a1:Int)(a2:List Token)(a3:Int)(a4:Int)(a5:Int)(a6:MI)(r:(Int×Int×Int))(H:Xq a0 a1 a2 a3 a4 a5 a6=some r):ZX (Z8 a0 a1 a2 a3 a4 a5 a6 r):=⟨a0,a1,a2,a3,a4,a5,a6,r,H,rfl⟩
theorem JjR:∀ g,ZX g→Jx Try.prog 74 g:=by
 rintro _ ⟨a0,a1,a2,a3,a4,a5,a6,r,H,rfl⟩
 refine xGn mixed [] [] [] trivial trivial trivial Try.func74 _ ?_
 have G:=True.intro
 have Y:=xZ y_3 <| xZ y_22 <| xZ y_27 <| xZ y_29 <| xZ y_44 <| xZ y_70 <| xZ Try.results74 <| xZ J2.eq_1 <| xZ Jb.eq_1 <| xZ JW.eq_1 <| Z8.eq_1
 dsimp only[Z8]
 simp only[Xq]at H
 refine xS ?_
 refine xr ?_
 rcases Jc H with⟨hp1,H⟩|⟨hp1,H⟩
 ·obtain⟨F,G,hq1⟩:=xH Y G hp1
  refine xT ?_
  obtain⟨hg1,H⟩:=Jj H
  have F:=xZ Y (Jr Jb a2 a0.toNat default default (by omega))
  obtain⟨hg2,H⟩:=Jj H
  have F:=xZ F (Jr Jb a2 a0.toNat default default (by omega))
  replace H:=Option.some.inj H
  refine xR ?_
  subst H
  refine xnD [] ?_
  exact xO ⟨[1,2],[]⟩
 ·obtain⟨F,G,hq1⟩:=xH Y G hp1
  replace H:=Option.some.inj H
  refine xE ?_
  subst H
  refine xnD [] ?_
  exact xO ⟨[1,2],[]⟩
theorem JgI:Jh Try.prog 74∧(∀ g,ZX g→Jx Try.prog 74 g)∧(true=true→∀ g,ZX g→∃ val bs ts,g.out=.ret val bs ts) :=
 ⟨Jwp,JjR,fun _=>by rintro _ ⟨_,_,_,_,_,_,_,_,_,rfl⟩; exact⟨_,_,_,rfl⟩⟩
noncomputable def XT(a2:Int)(a7:MI):(Int×Int×Int×Int)→Option (Int×Int×Int×MI)
 | (x1,x2,x3,x4)=>if(eqI x2 0)=true then if 0≤a2∧a2≤9223372036854775807∧a7.length<9223372036854775807 then some (x2,x3,x4,(a2,x1)::a7) else none else some (x2,x3,x4,a7)
noncomputable def KM(a0:EN)(a1:EN)(a2:Int)(a3:List Token)(a4:Int)(a5:Int)(a6:Int)(a7:MI):Option (Int×Int×Int×MI) :=
 if(0:Int)≤a2∧a2.toNat<a3.length then if((a3.getD a2.toNat default).Text).length≤9223372036854775807 then if(!(enH a0 ((a3.getD a2.toNat default).Text)))=true then(Xq a2 6 a3 a4 a5 a6 a7).bind fun r1=>XT a2 a7 (enV a0 ((a3.getD a2.toNat default).Text),r1.1,r1.2.1,r1.2.2) else XT a2 a7 (enV a0 ((a3.getD a2.toNat default).Text),a4,a5,a6) else none else none
noncomputable def Jb1(a0:EN)(a1:EN)(a2:Int)(a3:List Token)(a4:Int)(a5:Int)(a6:Int)(a7:MI)(r:(Int×Int×Int×MI)):GI :=
 ⟨[.c (.pt 1 0),.ag [.fm (EM Try.prog 58 (cvN a0)),.fm (EM Try.prog 58 (cvN a1))],.c (.d (.v (.int .i64 a2)))],[[.d (.sl 11 (List.map Jb a3)),.mo 2,.d (.v (.int .i64 a4)),.d (.v (.int .i64 a5)),.d (.v (.int .i64 a6))],[.ob (KMI a7)]],[],.ret (.tu []) [[.d (.sl 11 (List.map Jb a3)),.mo 2,.d (.v (.int .i64 r.1)),.d (.v (.int .i64 r.2.1)),.d (.v (.int .i64 r.2.2.1))],[.ob (KMI r.2.2.2)]] []⟩
def JbZ:GI→Prop:=fun g=>∃ (a0:EN) (a1:EN) (a2:Int) (a3:List Token) (a4:Int) (a5:Int) (a6:Int) (a7:MI) (r:(Int×Int×Int×MI)),KM a0 a1 a2 a3 a4 a5 a6 a7=some r∧g=Jb1 a0 a1 a2 a3 a4 a5 a6 a7 r
theorem JgZ(a0:EN)(a1:EN)(a2:Int)(a3:List Token)(a4:Int)(a5:Int)(a6:Int)(a7:MI)(r:(Int×Int×Int×MI))(H:KM a0 a1 a2 a3 a4 a5 a6 a7=some r):JbZ (Jb1 a0 a1 a2 a3 a4 a5 a6 a7 r):=⟨a0,a1,a2,a3,a4,a5,a6,a7,r,H,rfl⟩
theorem Jki:∀ g,JbZ g→Jx Try.prog 48 g:=by
 rintro _ ⟨a0,a1,a2,a3,a4,a5,a6,a7,r,H,rfl⟩
 refine xGnl mixed [1000039] [] [(74,true,ZX)] [] trivial ⟨JgI,trivial⟩ trivial Try.func48 _ ?_
 have G:=True.intro
 have Y:=xZ y_9 <| xZ y_22 <| xZ y_27 <| xZ y_29 <| xZ y_44 <| xZ y_58 <| xZ y_68 <| xZ y_70 <| xZ y_72 <| xZ Try.results48 <| xZ J2.eq_1 <| xZ Jb.eq_1 <| xZ JW.eq_1 <| xZ Z8.eq_1 <| xZ Jb1.eq_1 <| xZ JbH <| xZ JaH <| xZ JaE <| xZ JbF <| xZ JbL <| xZ JaG <| xZ JaF <| JbM
 dsimp only[Jb1]
 simp only[KM]at H
 refine xS ?_
 refine xr ?_
 obtain⟨hg1,H⟩:=Jj H
 have F:=xZ Y (Jr Jb a3 a2.toNat default default (by omega))
 obtain⟨hg2,H⟩:=Jj H
 refine xR0 ?_
 refine Jq ?_
 refine JB (XT a2 a7) (fun s=>[(0,.c (.pt 1 0)),(2,.c (.d (.v (.int .i64 a2)))),(6,.c (.d (.v (.int .i64 s.1))))]) (fun s=>[[.d (.sl 11 (List.map Jb a3)),.mo 2,.d (.v (.int .i64 s.2.1)),.d (.v (.int .i64 s.2.2.1)),.d (.v (.int .i64 s.2.2.2))],[.ob (KMI a7)]]) [] r ?_ ?_
 ·refine xS ?_
  refine xr ?_
  rcases Jc H with⟨hp2,H⟩|⟨hp2,H⟩
  ·obtain⟨F,G,hq2⟩:=xH Y G hp2
   refine xT ?_
   obtain⟨r1,hr1,H⟩:=Jg H
   have F:=Y
   refine xQ ?_
   refine xs 2 ?_
   refine xc ⟨[1,2],[]⟩ (tabG 0 (JgH a2 6 a3 a4 a5 a6 a7 r1 hr1)) ?_
   refine xl ?_
   refine xS ?_
   exact Jf H (xK ⟨[1,2],[]⟩)
  ·obtain⟨F,G,hq2⟩:=xH Y G hp2
   refine xE ?_
   exact Jf H (xK ⟨[1,2],[]⟩)
 ·rintro ⟨x1,x2,x3,x4⟩ H
  rw[XT]at H
  refine xS ?_
  refine xr ?_
  rcases Jc H with⟨hp1,H⟩|⟨hp1,H⟩
  ·obtain⟨F,G,hq1⟩:=xH Y G hp1
   refine xT ?_
   obtain⟨hgh,H⟩:=Jj H
   refine Jxx a7 a2 x1 hgh ?_
   replace H:=Option.some.inj H
   subst H
   refine xnD [] ?_
   exact xO ⟨[1,2],[]⟩
  ·obtain⟨F,G,hq1⟩:=xH Y G hp1
   replace H:=Option.some.inj H
   refine xE ?_
   subst H
   refine xnD [] ?_
   exact xO ⟨[1,2],[]⟩
theorem Jlg:Jh Try.prog 48∧(∀ g,JbZ g→Jx Try.prog 48 g)∧(true=true→∀ g,JbZ g→∃ val bs ts,g.out=.ret val bs ts) :=
 ⟨JwT,Jki,fun _=>by rintro _ ⟨_,_,_,_,_,_,_,_,_,_,rfl⟩; exact⟨_,_,_,rfl⟩⟩
noncomputable def ZJ(a0:EN)(a1:EN)(a2:Int)(a3:List Token)(a4:Int)(a5:Int)(a6:Int):MI→Option (EN×EN×Int×Int×Int×MI)
 | x1=>if(0:Int)≤a2∧a2.toNat<a3.length then(Ze a0 a1 ((a3.getD a2.toNat default).Text) a2).bind fun r2=>some (((((a3.getD a2.toNat default).Text),a2)::a0),((((a3.getD a2.toNat default).Text),a2)::a1),a4,a5,a6,x1) else none
noncomputable def KU(a0:EN)(a1:EN)(a2:Int)(a3:List Token)(a4:Int)(a5:Int)(a6:Int)(a7:MI):Option (EN×EN×Int×Int×Int×MI) :=
 if(0:Int)≤a2∧a2.toNat<a3.length then if((a3.getD a2.toNat default).Text).length≤9223372036854775807 then if(enH a1 ((a3.getD a2.toNat default).Text))=true then(Xq a2 7 a3 a4 a5 a6 a7).bind fun r1=>some (a0,a1,r1.1,r1.2.1,r1.2.2,a7) else if(eqI a4 0)=true then if 0≤a2∧a2≤9223372036854775807∧a7.length<9223372036854775807 then ZJ a0 a1 a2 a3 a4 a5 a6 ((a2,a2)::a7) else none else ZJ a0 a1 a2 a3 a4 a5 a6 a7 else none else none
noncomputable def Jbv(a0:EN)(a1:EN)(a2:Int)(a3:List Token)(a4:Int)(a5:Int)(a6:Int)(a7:MI)(r:(EN×EN×Int×Int×Int×MI)):GI :=
 ⟨[.c (.pt 1 0),.ag [.fm (EM Try.prog 58 (cvN a0)),.fm (EM Try.prog 58 (cvN a1))],.c (.d (.v (.int .i64 a2)))],[[.d (.sl 11 (List.map Jb a3)),.mo 2,.d (.v (.int .i64 a4)),.d (.v (.int .i64 a5)),.d (.v (.int .i64 a6))],[.ob (KMI a7)]],[],.ret (.ag [.fm (EM Try.prog 58 (cvN r.1)),.fm (EM Try.prog 58 (cvN r.2.1))]) [[.d (.sl 11 (List.map Jb a3)),.mo 2,.d (.v (.int .i64 r.2.2.1)),.d (.v (.int .i64 r.2.2.2.1)),.d (.v (.int .i64 r.2.2.2.2.1))],[.ob (KMI r.2.2.2.2.2)]] []⟩
def Jbq:GI→Prop:=fun g=>∃ (a0:EN) (a1:EN) (a2:Int) (a3:List Token) (a4:Int) (a5:Int) (a6:Int) (a7:MI) (r:(EN×EN×Int×Int×Int×MI)),KU a0 a1 a2 a3 a4 a5 a6 a7=some r∧g=Jbv a0 a1 a2 a3 a4 a5 a6 a7 r
theorem JgA(a0:EN)(a1:EN)(a2:Int)(a3:List Token)(a4:Int)(a5:Int)(a6:Int)(a7:MI)(r:(EN×EN×Int×Int×Int×MI))(H:KU a0 a1 a2 a3 a4 a5 a6 a7=some r):Jbq (Jbv a0 a1 a2 a3 a4 a5 a6 a7 r):=⟨a0,a1,a2,a3,a4,a5,a6,a7,r,H,rfl⟩
theorem Jj0:∀ g,Jbq g→Jx Try.prog 49 g:=by
 rintro _ ⟨a0,a1,a2,a3,a4,a5,a6,a7,r,H,rfl⟩
 refine xGnl mixed [1000051] [] [(74,true,ZX),(75,true,Zp)] [] trivial ⟨JgI,JhG,trivial⟩ trivial Try.func49 _ ?_
 have G:=True.intro
 have Y:=xZ y_9 <| xZ y_22 <| xZ y_27 <| xZ y_29 <| xZ y_44 <| xZ y_58 <| xZ y_68 <| xZ y_70 <| xZ y_72 <| xZ Try.results49 <| xZ J2.eq_1 <| xZ Jb.eq_1 <| xZ JW.eq_1 <| xZ Z8.eq_1 <| xZ Zj.eq_1 <| xZ Jbv.eq_1 <| xZ JbH <| xZ JaH <| xZ JaE <| xZ JbF <| xZ JbL <| xZ JaG <| xZ JaF <| JbM
 dsimp only[Jbv]
 simp only[KU]at H
 refine xS ?_
 refine xr ?_
 obtain⟨hg1,H⟩:=Jj H
 have F:=xZ Y (Jr Jb a3 a2.toNat default default (by omega))
 obtain⟨hg2,H⟩:=Jj H
 refine xR ?_
 refine xr ?_
 rcases Jc H with⟨hp1,H⟩|⟨hp1,H⟩
 ·obtain⟨F,G,hq1⟩:=xH Y G hp1
  refine xT ?_
  obtain⟨r1,hr1,H⟩:=Jg H
  have F:=Y
  refine xQ ?_
  refine xs 2 ?_
  refine xc ⟨[1,2],[]⟩ (tabG 0 (JgH a2 7 a3 a4 a5 a6 a7 r1 hr1)) ?_
  refine xl ?_
  refine xS ?_
  replace H:=Option.some.inj H
  refine xr ?_
  subst H
  refine xrD [] ?_
  exact xO ⟨[1,2],[]⟩
 ·obtain⟨F,G,hq1⟩:=xH Y G hp1
  refine xE0 ?_
  refine Jbu ?_
  refine Jq ?_
  refine JB (ZJ a0 a1 a2 a3 a4 a5 a6) (fun s=>[(0,.c (.pt 1 0)),(2,.c (.d (.v (.int .i64 a2)))),(4,.c (.pt 3 0)),(6,.c (.pt 4 0))]) (fun s=>[[.d (.sl 11 (List.map Jb a3)),.mo 2,.d (.v (.int .i64 a4)),.d (.v (.int .i64 a5)),.d (.v (.int .i64 a6))],[.ob (KMI s)],[.fm (EM Try.prog 58 (cvN a0)),.fm (EM Try.prog 58 (cvN a1))],[.d (.v (.map none)),.d (.v (.map none))]]) [] r ?_ ?_
  ·refine xS ?_
   refine xr ?_
   rcases Jc H with⟨hp2,H⟩|⟨hp2,H⟩
   ·obtain⟨F,G,hq2⟩:=xH Y G hp2
    refine xT ?_
    obtain⟨hgh,H⟩:=Jj H
    refine JwC a7 a2 hgh ?_
    exact Jf H (xK ⟨[1,2,3,4],[]⟩)
   ·obtain⟨F,G,hq2⟩:=xH Y G hp2
    refine xE ?_
    exact Jf H (xK ⟨[1,2,3,4],[]⟩)
  ·rintro x1 H
   rw[ZJ]at H
   refine xS ?_
   obtain⟨hg3,H⟩:=Jj H
   have F:=xZ Y (Jr Jb a3 a2.toNat default default (by omega))
   obtain⟨r2,hr2,H⟩:=Jg H
   have F:=F
   refine xQ ?_
   refine xs 10 ?_
   refine xc ⟨[],[]⟩ (tabG 1 (JhD a0 a1 ((a3.getD a2.toNat default).Text) a2 r2 hr2)) ?_
   refine xs 1 ?_
   refine xl ?_
   replace H:=Option.some.inj H
   refine xS ?_
   subst H
   refine xrD [] ?_
   exact xO ⟨[1,2],[]⟩
theorem Jkv:Jh Try.prog 49∧(∀ g,Jbq g→Jx Try.prog 49 g)∧(true=true→∀ g,Jbq g→∃ val bs ts,g.out=.ret val bs ts) :=
 ⟨Jxc,Jj0,fun _=>by rintro _ ⟨_,_,_,_,_,_,_,_,_,_,rfl⟩; exact⟨_,_,_,rfl⟩⟩
noncomputable def Xj(a0:EN)(a1:EN):Option Unit :=
 some ()
noncomputable def Zm(a0:EN)(a1:EN)(r:Unit):GI :=
 ⟨[.ag [.fm (EM Try.prog 58 (cvN a0)),.fm (EM Try.prog 58 (cvN a1))]],[],[],.ret (.ag [.fm (EM Try.prog 58 (cvN a0)),.fm (EM Try.prog 58 (cvN ([]:EN)))]) [] []⟩
def Zl:GI→Prop:=fun g=>∃ (a0:EN) (a1:EN) (r:Unit),Xj a0 a1=some r∧g=Zm a0 a1 r
theorem JeD(a0:EN)(a1:EN)(r:Unit)(H:Xj a0 a1=some r):Zl (Zm a0 a1 r):=⟨a0,a1,r,H,rfl⟩
theorem Jht:∀ g,Zl g→Jx Try.prog 50 g:=by
 rintro _ ⟨a0,a1,r,H,rfl⟩
 refine xGn mixed [] [] [] trivial trivial trivial Try.func50 _ ?_
 have G:=True.intro
 have Y:=xZ y_58 <| xZ y_72 <| xZ Try.results50 <| xZ Zm.eq_1 <| xZ JbH <| xZ JaH <| xZ JaE <| xZ JbF <| xZ JbL <| xZ JaG <| xZ JaF <| JbM
 dsimp only[Zm]
 unfold Xj at H
 refine xS ?_
 refine xr ?_
 refine xr ?_
 refine xrD [] ?_
 exact xO ⟨[],[]⟩
theorem JhH:Jh Try.prog 50∧(∀ g,Zl g→Jx Try.prog 50 g)∧(true=true→∀ g,Zl g→∃ val bs ts,g.out=.ret val bs ts) :=
 ⟨JvU,Jht,fun _=>by rintro _ ⟨_,_,_,_,rfl⟩; exact⟨_,_,_,rfl⟩⟩
noncomputable def XW(a0:EN)(a1:EN)(a2:Node)(a3:List Token)(a4:Int)(a5:Int)(a6:Int)(a7:MI)(r:(EN×EN×Int×Int×Int×MI)):GI :=
 ⟨[.c (.pt 1 0),.ag [.fm (EM Try.prog 58 (cvN a0)),.fm (EM Try.prog 58 (cvN a1))],.ag [.d (.v (.int .i64 a2.Kind)),.d (.v (.int .i64 a2.Tok)),.d (.sl 3 (List.map Jp a2.Kids))]],[[.d (.sl 11 (List.map Jb a3)),.mo 2,.d (.v (.int .i64 a4)),.d (.v (.int .i64 a5)),.d (.v (.int .i64 a6))],[.ob (KMI a7)]],[],.ret (.ag [.fm (EM Try.prog 58 (cvN r.1)),.fm (EM Try.prog 58 (cvN r.2.1))]) [[.d (.sl 11 (List.map Jb a3)),.mo 2,.d (.v (.int .i64 r.2.2.1)),.d (.v (.int .i64 r.2.2.2.1)),.d (.v (.int .i64 r.2.2.2.2.1))],[.ob (KMI r.2.2.2.2.2)]] []⟩
def ZK(q:EN→EN→Node→(List Token)→Int→Int→Int→MI→Option (EN×EN×Int×Int×Int×MI)):GI→Prop:=fun g=>∃ (a0:EN) (a1:EN) (a2:Node) (a3:List Token) (a4:Int) (a5:Int) (a6:Int) (a7:MI) (r:(EN×EN×Int×Int×Int×MI)),q a0 a1 a2 a3 a4 a5 a6 a7=some r∧g=XW a0 a1 a2 a3 a4 a5 a6 a7 r
theorem XE(q:EN→EN→Node→(List Token)→Int→Int→Int→MI→Option (EN×EN×Int×Int×Int×MI))(a0:EN)(a1:EN)(a2:Node)(a3:List Token)(a4:Int)(a5:Int)(a6:Int)(a7:MI)(r:(EN×EN×Int×Int×Int×MI))(H:q a0 a1 a2 a3 a4 a5 a6 a7=some r):ZK q (XW a0 a1 a2 a3 a4 a5 a6 a7 r):=⟨a0,a1,a2,a3,a4,a5,a6,a7,r,H,rfl⟩
noncomputable def Vz:(Int×Int×Int×MI×EN×EN)→Option (EN×EN×Int×Int×Int×MI)
 | (x1,x2,x3,x4,x5,x6)=>some (x5,x6,x1,x2,x3,x4)
noncomputable def Zs(q1:EN→EN→Node→(List Token)→Int→Int→Int→MI→Option (EN×EN×Int×Int×Int×MI))(a2:Node)(a3:List Token):(Int×Int×Int×Int×Int×MI×EN×EN)→Option ((Int×Int×Int×Int×Int×MI×EN×EN) ⊕ (EN×EN×Int×Int×Int×MI))
 | (x7,x8,x9,x10,x11,x12,x13,x14)=>if(ltI x8 x7)=true then if(0:Int)≤x8∧x8.toNat<a2.Kids.length then(q1 x13 x14 (a2.Kids.getD x8.toNat default) a3 x9 x10 x11 x12).bind fun r5=>some (.inl (x7,IntKind.i64.wrap (x8+1),r5.2.2.1,r5.2.2.2.1,r5.2.2.2.2.1,r5.2.2.2.2.2,r5.1,r5.2.1)) else none else inrO (Vz (x9,x10,x11,x12,x13,x14))
noncomputable def XI(q1:EN→EN→Node→(List Token)→Int→Int→Int→MI→Option (EN×EN×Int×Int×Int×MI))(a3:List Token)(r7:(EN×EN×Int×Int×Int×MI)):((List Node)×Int×Int×Int×Int×Int×MI×EN×EN)→Option (((List Node)×Int×Int×Int×Int×Int×MI×EN×EN) ⊕ (EN×EN×Int×Int×Int×MI))
 | (x25,x26,x27,x28,x29,x30,x31,x32,x33)=>if(ltI x27 x26)=true then if(0:Int)≤x27∧x27.toNat<x25.length then(q1 x32 x33 (x25.getD x27.toNat default) a3 x28 x29 x30 x31).bind fun r10=>some (.inl (x25,x26,IntKind.i64.wrap (x27+1),r10.2.2.1,r10.2.2.2.1,r10.2.2.2.2.1,r10.2.2.2.2.2,r10.1,r10.2.1)) else none else inrO (Vz (x28,x29,x30,x31,r7.1,r7.2.1))
noncomputable def ZA(q1:EN→EN→Node→(List Token)→Int→Int→Int→MI→Option (EN×EN×Int×Int×Int×MI))(a2:Node)(a3:List Token)(r7:(EN×EN×Int×Int×Int×MI)):(Int×(List Node)×Int×Int×Int×Int×Int×MI×EN×EN)→Option ((Int×(List Node)×Int×Int×Int×Int×Int×MI×EN×EN) ⊕ (EN×EN×Int×Int×Int×MI))
 | (x15,x16,x17,x18,x19,x20,x21,x22,x23,x24)=>if(ltI x18 x17)=true then if(0:Int)≤x18∧x18.toNat<x16.length then(q1 x23 x24 (x16.getD x18.toNat default) a3 x19 x20 x21 x22).bind fun r9=>some (.inl (x15,x16,x17,IntKind.i64.wrap (x18+1),r9.2.2.1,r9.2.2.2.1,r9.2.2.2.2.1,r9.2.2.2.2.2,r9.1,r9.2.1)) else none else inrO (if(0:Int)≤x15∧x15.toNat<a2.Kids.length then Jt (XI q1 a3 r7) ((a2.Kids.getD x15.toNat default).Kids,(((a2.Kids.getD x15.toNat default).Kids).length:Int),0,x19,x20,x21,x22,x23,x24) else none)
noncomputable def Zv(q1:EN→EN→Node→(List Token)→Int→Int→Int→MI→Option (EN×EN×Int×Int×Int×MI))(a0:EN)(a1:EN)(a2:Node)(a3:List Token):(Int×Int×Int×Int×Int×MI×EN×EN)→Option ((Int×Int×Int×Int×Int×MI×EN×EN) ⊕ (EN×EN×Int×Int×Int×MI))
 | (x34,x35,x36,x37,x38,x39,x40,x41)=>if(ltI x35 x34)=true then if(0:Int)≤x35∧x35.toNat<a2.Kids.length then(q1 x40 x41 (a2.Kids.getD x35.toNat default) a3 x36 x37 x38 x39).bind fun r12=>some (.inl (x34,IntKind.i64.wrap (x35+1),r12.2.2.1,r12.2.2.2.1,r12.2.2.2.2.1,r12.2.2.2.2.2,r12.1,r12.2.1)) else none else inrO (Vz (x36,x37,x38,x39,a0,a1))
noncomputable def ZI(q1:EN→EN→Node→(List Token)→Int→Int→Int→MI→Option (EN×EN×Int×Int×Int×MI))(a2:Node)(a3:List Token):(Int×Int×Int×Int×Int×MI×EN×EN)→Option ((Int×Int×Int×Int×Int×MI×EN×EN) ⊕ (EN×EN×Int×Int×Int×MI))
 | (x42,x43,x44,x45,x46,x47,x48,x49)=>if(ltI x43 x42)=true then if(0:Int)≤x43∧x43.toNat<a2.Kids.length then(q1 x48 x49 (a2.Kids.getD x43.toNat default) a3 x44 x45 x46 x47).bind fun r13=>some (.inl (x42,IntKind.i64.wrap (x43+1),r13.2.2.1,r13.2.2.2.1,r13.2.2.2.2.1,r13.2.2.2.2.2,r13.1,r13.2.1)) else none else inrO (Vz (x44,x45,x46,x47,x48,x49))
noncomputable def JL(q1:EN→EN→Node→(List Token)→Int→Int→Int→MI→Option (EN×EN×Int×Int×Int×MI))(a0:EN)(a1:EN)(a2:Node)(a3:List Token)(a4:Int)(a5:Int)(a6:Int)(a7:MI):Option (EN×EN×Int×Int×Int×MI) :=
 if(eqI a2.Kind 16)=true then if(0:Int)≤a2.Tok∧a2.Tok.toNat<a3.length then(Jbt ((a3.getD a2.Tok.toNat default).Text)).bind fun r1=>if(!r1)=true then(KM a0 a1 a2.Tok a3 a4 a5 a6 a7).bind fun r2=>Vz (r2.1,r2.2.1,r2.2.2.1,r2.2.2.2,a0,a1) else Vz (a4,a5,a6,a7,a0,a1) else none else if(eqI a2.Kind 10)=true then(KM a0 a1 a2.Tok a3 a4 a5 a6 a7).bind fun r3=>Vz (r3.1,r3.2.1,r3.2.2.1,r3.2.2.2,a0,a1) else if(eqI a2.Kind 4)=true then(KU a0 a1 a2.Tok a3 a4 a5 a6 a7).bind fun r4=>Jt (Zs q1 a2 a3) ((a2.Kids.length:Int),0,r4.2.2.1,r4.2.2.2.1,r4.2.2.2.2.1,r4.2.2.2.2.2,r4.1,r4.2.1) else if(eqI a2.Kind 3)=true then if 0<a2.Kids.length then(q1 a0 a1 (a2.Kids.getD 0 default) a3 a4 a5 a6 a7).bind fun r6=>if 1<a2.Kids.length then(KU a0 a1 ((a2.Kids.getD 1 default).Tok) a3 r6.2.2.1 r6.2.2.2.1 r6.2.2.2.2.1 r6.2.2.2.2.2).bind fun r7=>(Xj r7.1 r7.2.1).bind fun r8=>if(0:Int)≤2∧2≤(IntKind.i64.wrap ((a2.Kids.length:Int)-1))∧(IntKind.i64.wrap ((a2.Kids.length:Int)-1))≤(a2.Kids.length:Int) then Jt (ZA q1 a2 a3 r7) (IntKind.i64.wrap ((a2.Kids.length:Int)-1),List.take ((IntKind.i64.wrap ((a2.Kids.length:Int)-1)).toNat-2) (List.drop 2 a2.Kids),((List.take ((IntKind.i64.wrap ((a2.Kids.length:Int)-1)).toNat-2) (List.drop 2 a2.Kids)).length:Int),0,r7.2.2.1,r7.2.2.2.1,r7.2.2.2.2.1,r7.2.2.2.2.2,r7.1,([]:EN)) else none else none else none else if(eqI a2.Kind 5)=true then(Xj a0 a1).bind fun r11=>Jt (Zv q1 a0 a1 a2 a3) ((a2.Kids.length:Int),0,a4,a5,a6,a7,a0,([]:EN)) else Jt (ZI q1 a2 a3) ((a2.Kids.length:Int),0,a4,a5,a6,a7,a0,a1)
theorem Jiv(q1:EN→EN→Node→(List Token)→Int→Int→Int→MI→Option (EN×EN×Int×Int×Int×MI))(kq1:Kok Try.prog 23 true (ZK q1)):∀ g,ZK (JL q1) g→Jx Try.prog 23 g:=by
 rintro _ ⟨a0,a1,a2,a3,a4,a5,a6,a7,r,H,rfl⟩
 refine xGn mixed [(47,Jdg)] [(48,true,JbZ),(49,true,Jbq),(23,true,(ZK q1)),(50,true,Zl)] [] ⟨⟨JrQ,Jg0⟩,trivial⟩ ⟨Jlg,Jkv,kq1,JhH,trivial⟩ trivial Try.func23 _ ?_
 have G:=True.intro
 have Y:=xZ y_3 <| xZ y_9 <| xZ y_22 <| xZ y_24 <| xZ y_26 <| xZ y_44 <| xZ y_70 <| xZ y_72 <| xZ Try.results23 <| xZ J2.eq_1 <| xZ Jb.eq_1 <| xZ JW.eq_1 <| xZ Vu <| xZ Jb1.eq_1 <| xZ Jbv.eq_1 <| xZ XW.eq_1 <| xZ Zm.eq_1 <| XW.eq_1
 dsimp only[XW]
 simp only[JL]at H
 refine xS ?_
 refine xr0 ?_
 refine Jq ?_
 refine JB Vz (fun s=>[(4,.c (.pt 3 0)),(6,.c (.pt 4 0))]) (fun s=>[[.d (.sl 11 (List.map Jb a3)),.mo 2,.d (.v (.int .i64 s.1)),.d (.v (.int .i64 s.2.1)),.d (.v (.int .i64 s.2.2.1))],[.ob (KMI s.2.2.2.1)],[.fm (EM Try.prog 58 (cvN s.2.2.2.2.1)),.fm (EM Try.prog 58 (cvN s.2.2.2.2.2))],[.d (.v (.map none)),.d (.v (.map none))]]) [] r ?_ ?_
 ·refine xS ?_
  refine xr ?_
  refine xr ?_
  rcases Jc H with⟨hp1,H⟩|⟨hp1,H⟩
  ·obtain⟨F,G,hq1⟩:=xH Y G hp1
   refine xT ?_
   obtain⟨hg1,H⟩:=Jj H
   have F:=xZ Y (Jr Jb a3 a2.Tok.toNat default default (by omega))
   obtain⟨r1,hr1,H⟩:=Jg H
   have F:=xCf F (Jhg ((a3.getD a2.Tok.toNat default).Text) r1 hr1)
   refine xR ?_
   rcases Jc H with⟨hp2,H⟩|⟨hp2,H⟩
   ·obtain⟨F,G,hq2⟩:=xH Y G hp2
    refine xT ?_
    obtain⟨r2,hr2,H⟩:=Jg H
    have F:=Y
    refine xQ ?_
    refine xs 4 ?_
    refine xc ⟨[1,2],[]⟩ (tabG 0 (JgZ a0 a1 a2.Tok a3 a4 a5 a6 a7 r2 hr2)) ?_
    refine xl ?_
    refine xS ?_
    exact Jf H (xK ⟨[1,2,3,5],[]⟩)
   ·obtain⟨F,G,hq2⟩:=xH Y G hp2
    refine xE ?_
    exact Jf H (xK ⟨[1,2,3,5],[]⟩)
  ·obtain⟨F,G,hq1⟩:=xH Y G hp1
   refine xE ?_
   refine xr ?_
   rcases Jc H with⟨hp3,H⟩|⟨hp3,H⟩
   ·obtain⟨F,G,hq3⟩:=xH Y G hp3
    refine xT ?_
    obtain⟨r3,hr3,H⟩:=Jg H
    have F:=Y
    refine xQ ?_
    refine xs 4 ?_
    refine xc ⟨[1,2],[]⟩ (tabG 0 (JgZ a0 a1 a2.Tok a3 a4 a5 a6 a7 r3 hr3)) ?_
    refine xl ?_
    refine xS ?_
    exact Jf H (xK ⟨[1,2,3,5],[]⟩)
   ·obtain⟨F,G,hq3⟩:=xH Y G hp3
    refine xE ?_
    refine xr ?_
    rcases Jc H with⟨hp4,H⟩|⟨hp4,H⟩
    ·obtain⟨F,G,hq4⟩:=xH Y G hp4
     refine xT ?_
     obtain⟨r4,hr4,H⟩:=Jg H
     have F:=Y
     refine xQ ?_
     refine xs 4 ?_
     refine xc ⟨[1,2],[]⟩ (tabG 1 (JgA a0 a1 a2.Tok a3 a4 a5 a6 a7 r4 hr4)) ?_
     refine xs 1 ?_
     refine xl ?_
     refine xS ?_
     refine xr ?_
     refine Ke (Zs q1 a2 a3) (fun s=>[(0,.c (.pt 1 0)),(4,.c (.pt 3 0)),(6,.c (.pt 4 0)),(67,.c (.d (.sl 3 (List.map Jp a2.Kids)))),(68,.c (.d (.v (.int .i64 s.1)))),(69,.c (.d (.v (.int .i64 s.2.1))))]) (fun s=>[[.d (.sl 11 (List.map Jb a3)),.mo 2,.d (.v (.int .i64 s.2.2.1)),.d (.v (.int .i64 s.2.2.2.1)),.d (.v (.int .i64 s.2.2.2.2.1))],[.ob (KMI s.2.2.2.2.2.1)],[.fm (EM Try.prog 58 (cvN s.2.2.2.2.2.2.1)),.fm (EM Try.prog 58 (cvN s.2.2.2.2.2.2.2))],[.d (.v (.map none)),.d (.v (.map none))]]) [] H (xK ⟨[1,2,3,5],[]⟩) ?_
     rintro n1 ⟨x7,x8,x9,x10,x11,x12,x13,x14⟩ o1 H hF1
     rw[Zs]at H
     refine xS ?_
     refine xr ?_
     rcases Jc H with⟨hp5,H⟩|⟨hp5,H⟩
     ·obtain⟨F,G,hq5⟩:=xH Y G hp5
      refine xT ?_
      obtain⟨hg2,H⟩:=Jj H
      have F:=xZ Y (Jr Jp a2.Kids x8.toNat default default (by omega))
      refine xR ?_
      obtain⟨r5,hr5,H⟩:=Jg H
      have F:=Y
      refine xQ ?_
      refine xs 3 ?_
      refine xc ⟨[1,2],[]⟩ (tabG 2 (XE q1 x13 x14 (a2.Kids.getD x8.toNat default) a3 x9 x10 x11 x12 r5 hr5)) ?_
      refine xs 1 ?_
      refine xl ?_
      refine xS ?_
      refine xr ?_
      exact JD (JM H hF1) (xK ⟨[1,2,3,4],[]⟩)
     ·obtain⟨F,G,hq5⟩:=xH Y G hp5
      replace H:=Js H hF1
      refine xE ?_
      exact Jf H (xK ⟨[1,2,3,4],[]⟩)
    ·obtain⟨F,G,hq4⟩:=xH Y G hp4
     refine xE ?_
     refine xr ?_
     rcases Jc H with⟨hp6,H⟩|⟨hp6,H⟩
     ·obtain⟨F,G,hq6⟩:=xH Y G hp6
      refine xT ?_
      obtain⟨hg3,H⟩:=Jj H
      have F:=xZ Y (Jr Jp a2.Kids 0 default default (by omega))
      obtain⟨r6,hr6,H⟩:=Jg H
      have F:=F
      refine xQ ?_
      refine xs 6 ?_
      refine xc ⟨[1,2],[]⟩ (tabG 2 (XE q1 a0 a1 (a2.Kids.getD 0 default) a3 a4 a5 a6 a7 r6 hr6)) ?_
      refine xl ?_
      refine xS ?_
      obtain⟨hg4,H⟩:=Jj H
      have F:=xZ Y (Jr Jp a2.Kids 1 default default (by omega))
      obtain⟨r7,hr7,H⟩:=Jg H
      have F:=F
      refine xQ ?_
      refine xs 7 ?_
      refine xc ⟨[1,2],[]⟩ (tabG 1 (JgA a0 a1 ((a2.Kids.getD 1 default).Tok) a3 r6.2.2.1 r6.2.2.2.1 r6.2.2.2.2.1 r6.2.2.2.2.2 r7 hr7)) ?_
      refine xs 1 ?_
      refine xl ?_
      refine xS ?_
      obtain⟨r8,hr8,H⟩:=Jg H
      have F:=Y
      refine xQ ?_
      refine xs 1 ?_
      refine xc ⟨[],[]⟩ (tabG 3 (JeD r7.1 r7.2.1 r8 hr8)) ?_
      refine xs 2 ?_
      refine xl ?_
      refine xS ?_
      refine xr ?_
      obtain⟨hg5,H⟩:=Jj H
      refine xr ?_
      refine Ke (ZA q1 a2 a3 r7) (fun s=>[(0,.c (.pt 1 0)),(4,.c (.pt 3 0)),(5,.c (.pt 4 0)),(6,.c (.pt 5 0)),(9,.c (.pt 6 0)),(10,.c (.d (.v (.int .i64 s.1)))),(104,.c (.d (.sl 3 (List.map Jp s.2.1)))),(105,.c (.d (.v (.int .i64 s.2.2.1)))),(106,.c (.d (.v (.int .i64 s.2.2.2.1))))]) (fun s=>[[.d (.sl 11 (List.map Jb a3)),.mo 2,.d (.v (.int .i64 s.2.2.2.2.1)),.d (.v (.int .i64 s.2.2.2.2.2.1)),.d (.v (.int .i64 s.2.2.2.2.2.2.1))],[.ob (KMI s.2.2.2.2.2.2.2.1)],[.fm (EM Try.prog 58 (cvN r7.1)),.fm (EM Try.prog 58 (cvN r7.2.1))],[.d (.v (.int .i64 a2.Kind)),.d (.v (.int .i64 a2.Tok)),.d (.sl 3 (List.map Jp a2.Kids))],[.d (.v (.map none)),.d (.v (.map none))],[.fm (EM Try.prog 58 (cvN s.2.2.2.2.2.2.2.2.1)),.fm (EM Try.prog 58 (cvN s.2.2.2.2.2.2.2.2.2))]]) [] H (xK ⟨[1,2,3,4,5,10],[]⟩) ?_
      rintro n2 ⟨x15,x16,x17,x18,x19,x20,x21,x22,x23,x24⟩ o2 H hF2
      rw[ZA]at H
      refine xS ?_
      refine xr ?_
      rcases Jc H with⟨hp7,H⟩|⟨hp7,H⟩
      ·obtain⟨F,G,hq7⟩:=xH Y G hp7
       refine xT ?_
       obtain⟨hg6,H⟩:=Jj H
       have F:=xZ Y (Jr Jp x16 x18.toNat default default (by omega))
       refine xR ?_
       obtain⟨r9,hr9,H⟩:=Jg H
       have F:=Y
       refine xQ ?_
       refine xs 3 ?_
       refine xc ⟨[1,2],[]⟩ (tabG 2 (XE q1 x23 x24 (x16.getD x18.toNat default) a3 x19 x20 x21 x22 r9 hr9)) ?_
       refine xs 1 ?_
       refine xl ?_
       refine xS ?_
       refine xr ?_
       exact JD (JM H hF2) (xK ⟨[1,2,3,4,5,6],[]⟩)
      ·obtain⟨F,G,hq7⟩:=xH Y G hp7
       replace H:=Js H hF2
       refine xE ?_
       obtain⟨hg7,H⟩:=Jj H
       have F:=xZ Y (Jr Jp a2.Kids x15.toNat default default (by omega))
       refine xR ?_
       refine Ke (XI q1 a3 r7) (fun s=>[(0,.c (.pt 1 0)),(4,.c (.pt 3 0)),(6,.c (.pt 4 0)),(9,.c (.pt 5 0)),(120,.c (.d (.sl 3 (List.map Jp s.1)))),(121,.c (.d (.v (.int .i64 s.2.1)))),(122,.c (.d (.v (.int .i64 s.2.2.1))))]) (fun s=>[[.d (.sl 11 (List.map Jb a3)),.mo 2,.d (.v (.int .i64 s.2.2.2.1)),.d (.v (.int .i64 s.2.2.2.2.1)),.d (.v (.int .i64 s.2.2.2.2.2.1))],[.ob (KMI s.2.2.2.2.2.2.1)],[.fm (EM Try.prog 58 (cvN r7.1)),.fm (EM Try.prog 58 (cvN r7.2.1))],[.d (.v (.map none)),.d (.v (.map none))],[.fm (EM Try.prog 58 (cvN s.2.2.2.2.2.2.2.1)),.fm (EM Try.prog 58 (cvN s.2.2.2.2.2.2.2.2))]]) [] H (xK ⟨[1,2,3,5,6],[]⟩) ?_
       rintro n3 ⟨x25,x26,x27,x28,x29,x30,x31,x32,x33⟩ o3 H hF3
       rw[XI]at H
       refine xS ?_
       refine xr ?_
       rcases Jc H with⟨hp8,H⟩|⟨hp8,H⟩
       ·obtain⟨F,G,hq8⟩:=xH Y G hp8
        refine xT ?_
        obtain⟨hg8,H⟩:=Jj H
        have F:=xZ Y (Jr Jp x25 x27.toNat default default (by omega))
        refine xR ?_
        obtain⟨r10,hr10,H⟩:=Jg H
        have F:=Y
        refine xQ ?_
        refine xs 3 ?_
        refine xc ⟨[1,2],[]⟩ (tabG 2 (XE q1 x32 x33 (x25.getD x27.toNat default) a3 x28 x29 x30 x31 r10 hr10)) ?_
        refine xs 1 ?_
        refine xl ?_
        refine xS ?_
        refine xr ?_
        exact JD (JM H hF3) (xK ⟨[1,2,3,4,5],[]⟩)
       ·obtain⟨F,G,hq8⟩:=xH Y G hp8
        replace H:=Js H hF3
        refine xE ?_
        exact Jf H (xK ⟨[1,2,3,4],[]⟩)
     ·obtain⟨F,G,hq6⟩:=xH Y G hp6
      refine xE ?_
      refine xr ?_
      rcases Jc H with⟨hp9,H⟩|⟨hp9,H⟩
      ·obtain⟨F,G,hq9⟩:=xH Y G hp9
       refine xT ?_
       obtain⟨r11,hr11,H⟩:=Jg H
       have F:=Y
       refine xQ ?_
       refine xs 1 ?_
       refine xc ⟨[],[]⟩ (tabG 3 (JeD a0 a1 r11 hr11)) ?_
       refine xs 2 ?_
       refine xl ?_
       refine xS ?_
       refine xr ?_
       refine Ke (Zv q1 a0 a1 a2 a3) (fun s=>[(0,.c (.pt 1 0)),(4,.c (.pt 3 0)),(6,.c (.pt 4 0)),(15,.c (.pt 5 0)),(136,.c (.d (.sl 3 (List.map Jp a2.Kids)))),(137,.c (.d (.v (.int .i64 s.1)))),(138,.c (.d (.v (.int .i64 s.2.1))))]) (fun s=>[[.d (.sl 11 (List.map Jb a3)),.mo 2,.d (.v (.int .i64 s.2.2.1)),.d (.v (.int .i64 s.2.2.2.1)),.d (.v (.int .i64 s.2.2.2.2.1))],[.ob (KMI s.2.2.2.2.2.1)],[.fm (EM Try.prog 58 (cvN a0)),.fm (EM Try.prog 58 (cvN a1))],[.d (.v (.map none)),.d (.v (.map none))],[.fm (EM Try.prog 58 (cvN s.2.2.2.2.2.2.1)),.fm (EM Try.prog 58 (cvN s.2.2.2.2.2.2.2))]]) [] H (xK ⟨[1,2,3,5,6],[]⟩) ?_
       rintro n4 ⟨x34,x35,x36,x37,x38,x39,x40,x41⟩ o4 H hF4
       rw[Zv]at H
       refine xS ?_
       refine xr ?_
       rcases Jc H with⟨hp10,H⟩|⟨hp10,H⟩
       ·obtain⟨F,G,hq10⟩:=xH Y G hp10
        refine xT ?_
        obtain⟨hg9,H⟩:=Jj H
        have F:=xZ Y (Jr Jp a2.Kids x35.toNat default default (by omega))
        refine xR ?_
        obtain⟨r12,hr12,H⟩:=Jg H
        have F:=Y
        refine xQ ?_
        refine xs 3 ?_
        refine xc ⟨[1,2],[]⟩ (tabG 2 (XE q1 x40 x41 (a2.Kids.getD x35.toNat default) a3 x36 x37 x38 x39 r12 hr12)) ?_
        refine xs 1 ?_
        refine xl ?_
        refine xS ?_
        refine xr ?_
        exact JD (JM H hF4) (xK ⟨[1,2,3,4,5],[]⟩)
       ·obtain⟨F,G,hq10⟩:=xH Y G hp10
        replace H:=Js H hF4
        refine xE ?_
        exact Jf H (xK ⟨[1,2,3,4],[]⟩)
      ·obtain⟨F,G,hq9⟩:=xH Y G hp9
       refine xE ?_
       refine xr ?_
       refine Ke (ZI q1 a2 a3) (fun s=>[(0,.c (.pt 1 0)),(4,.c (.pt 3 0)),(6,.c (.pt 4 0)),(23,.c (.d (.sl 3 (List.map Jp a2.Kids)))),(24,.c (.d (.v (.int .i64 s.1)))),(25,.c (.d (.v (.int .i64 s.2.1))))]) (fun s=>[[.d (.sl 11 (List.map Jb a3)),.mo 2,.d (.v (.int .i64 s.2.2.1)),.d (.v (.int .i64 s.2.2.2.1)),.d (.v (.int .i64 s.2.2.2.2.1))],[.ob (KMI s.2.2.2.2.2.1)],[.fm (EM Try.prog 58 (cvN s.2.2.2.2.2.2.1)),.fm (EM Try.prog 58 (cvN s.2.2.2.2.2.2.2))],[.d (.v (.map none)),.d (.v (.map none))]]) [] H (xK ⟨[1,2,3,5],[]⟩) ?_
       rintro n5 ⟨x42,x43,x44,x45,x46,x47,x48,x49⟩ o5 H hF5
       rw[ZI]at H
       refine xS ?_
       refine xr ?_
       rcases Jc H with⟨hp11,H⟩|⟨hp11,H⟩
       ·obtain⟨F,G,hq11⟩:=xH Y G hp11
        refine xT ?_
        obtain⟨hg10,H⟩:=Jj H
        have F:=xZ Y (Jr Jp a2.Kids x43.toNat default default (by omega))
        refine xR ?_
        obtain⟨r13,hr13,H⟩:=Jg H
        have F:=Y
        refine xQ ?_
        refine xs 3 ?_
        refine xc ⟨[1,2],[]⟩ (tabG 2 (XE q1 x48 x49 (a2.Kids.getD x43.toNat default) a3 x44 x45 x46 x47 r13 hr13)) ?_
        refine xs 1 ?_
        refine xl ?_
        refine xS ?_
        refine xr ?_
        exact JD (JM H hF5) (xK ⟨[1,2,3,4],[]⟩)
       ·obtain⟨F,G,hq11⟩:=xH Y G hp11
        replace H:=Js H hF5
        refine xE ?_
        exact Jf H (xK ⟨[1,2,3,4],[]⟩)
 ·rintro ⟨x1,x2,x3,x4,x5,x6⟩ H
  rw[Vz]at H
  refine xS ?_
  replace H:=Option.some.inj H
  refine xr ?_
  subst H
  refine xrD [] ?_
  exact xO ⟨[1,2],[]⟩
noncomputable def JN:Nat→(EN→EN→Node→(List Token)→Int→Int→Int→MI→Option (EN×EN×Int×Int×Int×MI))
 | 0=>(fun _ _ _ _ _ _ _ _=>none)
 | n+1=>(JL (JN n))
theorem Je3:∀ n,Kok Try.prog 23 true (ZK (JN n))
 | 0=>⟨JrO,(by rintro _ ⟨_,_,_,_,_,_,_,_,_,H,_⟩; cases H),fun _=>by rintro _ ⟨_,_,_,_,_,_,_,_,_,_,rfl⟩; exact⟨_,_,_,rfl⟩⟩
 | n+1=>have h:=Je3 n; ⟨JrO,Jiv _ h,fun _=>by rintro _ ⟨_,_,_,_,_,_,_,_,_,_,rfl⟩; exact⟨_,_,_,rfl⟩⟩
noncomputable def Jcv:EN→EN→Node→(List Token)→Int→Int→Int→MI→Option (EN×EN×Int×Int×Int×MI):=(JN bigF)
def Jen:GI→Prop:=ZK Jcv
theorem Jko(a0:EN)(a1:EN)(a2:Node)(a3:List Token)(a4:Int)(a5:Int)(a6:Int)(a7:MI)(r:(EN×EN×Int×Int×Int×MI))(H:Jcv a0 a1 a2 a3 a4 a5 a6 a7=some r):Jen (XW a0 a1 a2 a3 a4 a5 a6 a7 r):=XE Jcv a0 a1 a2 a3 a4 a5 a6 a7 r H
theorem JkG:Kok Try.prog 23 true Jen:=(Je3 bigF)
noncomputable def XZ(x2:Int)(x3:Int):(List Bind)→Option (((List Bind)×Int×Int) ⊕ ((List Bind)×Fault))
 | x4=>some (.inl (x4,x2,IntKind.i64.wrap (x3+1)))
noncomputable def XY(r1:(EN×EN×Int×Int×Int×MI)):((List Bind)×Int×Int)→Option (((List Bind)×Int×Int) ⊕ ((List Bind)×Fault))
 | (x1,x2,x3)=>if(ltI x3 x2)=true then if 0≤x3∧x3≤9223372036854775807 then if(iHas r1.2.2.2.2.2 x3)=true then if(x1.length + [(⟨x3,ZQ r1.2.2.2.2.2 x3⟩:Bind)].length) * 16≤140737488355328 then XZ x2 x3 (x1++[(⟨x3,ZQ r1.2.2.2.2.2 x3⟩:Bind)]) else none else XZ x2 x3 x1 else none else inrO (some (x1,(⟨r1.2.2.1,r1.2.2.2.1,r1.2.2.2.2.1⟩:Fault)))
noncomputable def Jav(a0:List Token)(a1:Node):Option ((List Bind)×Fault) :=
 (Jcv ([]:EN) ([]:EN) a1 a0 0 (-1) 0 []).bind fun r1=>if(!eqI r1.2.2.1 0)=true then some (([]:List Bind),(⟨r1.2.2.1,r1.2.2.2.1,r1.2.2.2.2.1⟩:Fault)) else Jt (XY r1) (([]:List Bind),(a0.length:Int),0)
noncomputable def Jdy:PF:=PF.of (E2 (dL 11 Jb) Jp) (fun a=>Jav a.1 a.2) (T2 (dL 2 Jm) JW)
theorem Jiu:Kl Try.prog 9 Jdy:=by
 refine xFl mixed [1000059] [] [(23,true,Jen)] trivial ⟨JkG,trivial⟩ Try.func9 ?_
 rintro ⟨a0,a1⟩ out H
 have G:=True.intro
 have Y:=xZ y_3 <| xZ y_22 <| xZ y_26 <| xZ y_27 <| xZ y_29 <| xZ y_32 <| xZ y_40 <| xZ y_44 <| xZ y_58 <| xZ y_68 <| xZ y_70 <| xZ y_72 <| xZ Try.results9 <| xZ J2.eq_1 <| xZ Jb.eq_1 <| xZ JW.eq_1 <| xZ Vu <| xZ Jm.eq_1 <| xZ XW.eq_1 <| xZ JbH <| xZ JaH <| xZ JaE <| xZ JbF <| xZ JbL <| xZ JaG <| xZ JaF <| JbM
 simp only[Jav]at H
 refine xS ?_
 refine xr ?_
 refine JxK ?_
 refine xS ?_
 obtain⟨r1,hr1,H⟩:=Jg H
 have F:=Y
 refine xQ ?_
 refine xs 5 ?_
 refine xc ⟨[4,3],[]⟩ (tabG 0 (Jko ([]:EN) ([]:EN) a1 a0 0 (-1) 0 [] r1 hr1)) ?_
 refine xl ?_
 refine xS ?_
 refine xr ?_
 rcases Jc H with⟨hp1,H⟩|⟨hp1,H⟩
 ·obtain⟨F,G,hq1⟩:=xH Y G hp1
  refine xT ?_
  replace H:=Option.some.inj H
  refine xr ?_
  subst H
  exact xN
 ·obtain⟨F,G,hq1⟩:=xH Y G hp1
  refine xE ?_
  refine xr ?_
  refine xr ?_
  refine Ke (XY r1) (fun s=>[(5,.c (.pt 1 0)),(6,.c (.pt 2 0)),(7,.c (.sl 2 (List.map Jm s.1) 4)),(33,.c (.d (.v (.int .i64 s.2.1)))),(34,.c (.d (.v (.int .i64 s.2.2))))]) (fun s=>[[.d (.v (.int .i64 0)),.d (.v (.int .i64 0)),.d (.v (.int .i64 0))],[.d (.sl 11 (List.map Jb a0)),.mo 3,.d (.v (.int .i64 r1.2.2.1)),.d (.v (.int .i64 r1.2.2.2.1)),.d (.v (.int .i64 r1.2.2.2.2.1))],[.ob (KMI r1.2.2.2.2.2)]]) [40] H (xK ⟨[2,4,3],[0]⟩) ?_
  rintro n1 ⟨x1,x2,x3⟩ o1 H hF1
  rw[XY]at H
  refine xS ?_
  refine xr ?_
  rcases Jc H with⟨hp2,H⟩|⟨hp2,H⟩
  ·obtain⟨F,G,hq2⟩:=xH Y G hp2
   refine xT0 ?_
   refine Jbu ?_
   refine Jq ?_
   refine JB (XZ x2 x3) (fun s=>[(5,.c (.pt 1 0)),(6,.c (.pt 2 0)),(7,.c (.sl 2 (List.map Jm s) 4)),(33,.c (.d (.v (.int .i64 x2)))),(34,.c (.d (.v (.int .i64 x3))))]) (fun s=>[[.d (.v (.int .i64 0)),.d (.v (.int .i64 0)),.d (.v (.int .i64 0))],[.d (.sl 11 (List.map Jb a0)),.mo 3,.d (.v (.int .i64 r1.2.2.1)),.d (.v (.int .i64 r1.2.2.2.1)),.d (.v (.int .i64 r1.2.2.2.2.1))],[.ob (KMI r1.2.2.2.2.2)]]) [40] o1 ?_ ?_
   ·refine xS ?_
    refine xr ?_
    obtain⟨hgh,H⟩:=Jj H
    refine Jxh r1.2.2.2.2.2 x3 hgh ?_
    refine xS ?_
    refine xr ?_
    rcases Jc H with⟨hp3,H⟩|⟨hp3,H⟩
    ·obtain⟨F,G,hq3⟩:=xH Y G hp3
     refine xT ?_
     obtain⟨hg1,H⟩:=Jj H
     have F:=xZ Y (XL Jkw [(⟨x3,ZQ r1.2.2.2.2.2 x3⟩:Bind)])
     refine xR ?_
     exact Jf H (xK ⟨[1,2,3],[5]⟩)
    ·obtain⟨F,G,hq3⟩:=xH Y G hp3
     refine xE ?_
     exact Jf H (xK ⟨[1,2,3],[4]⟩)
   ·rintro x4 H
    rw[XZ]at H
    refine xr ?_
    exact JD (JM H hF1) (xK ⟨[1,2,3],[4]⟩)
  ·obtain⟨F,G,hq2⟩:=xH Y G hp2
   replace H:=Js H hF1
   refine xE ?_
   replace H:=Option.some.inj H
   refine xr ?_
   subst H
   exact xN
theorem JjZ(a0:List Token)(a1:Node)(r:(List Bind)×Fault)(H:Jav a0 a1=some r):PC Jdy [(dL 11 Jb) a0,Jp a1] (T2 (dL 2 Jm) JW r):=PF.c (a:=(a0,a1)) H
noncomputable def Xv(a0:List Bind)(a1:List Bind):(Int×Int)→Option ((Int×Int) ⊕ Bool)
 | (x1,x2)=>if(ltI x2 x1)=true then if(0:Int)≤x2∧x2.toNat<a0.length then if(0:Int)≤x2∧x2.toNat<a1.length then if(!(eqI ((a0.getD x2.toNat default).Tok) ((a1.getD x2.toNat default).Tok) && (eqI ((a0.getD x2.toNat default).Decl) ((a1.getD x2.toNat default).Decl))))=true then inrO (some false) else some (.inl (x1,IntKind.i64.wrap (x2+1))) else none else none else inrO (some true)
noncomputable def Zq(a0:List Bind)(a1:List Bind):Option Bool :=
 if(!eqI (a0.length:Int) (a1.length:Int))=true then some false else Jt (Xv a0 a1) ((a0.length:Int),0)
noncomputable def JcH:PF:=PF.of (E2 (dL 2 Jm) (dL 2 Jm)) (fun a=>Zq a.1 a.2) dB
theorem JhM:Kl Try.prog 10 JcH:=by
 refine xF mixed [] [] trivial trivial Try.func10 ?_
 rintro ⟨a0,a1⟩ out H
 have G:=True.intro
 have Y:=xZ y_32 <| xZ y_40 <| xZ Try.results10 <| Jm.eq_1
 simp only[Zq]at H
 refine xS ?_
 refine xr ?_
 refine xr ?_
 rcases Jc H with⟨hp1,H⟩|⟨hp1,H⟩
 ·obtain⟨F,G,hq1⟩:=xH Y G hp1
  refine xT ?_
  replace H:=Option.some.inj H
  refine xr ?_
  subst H
  exact xN
 ·obtain⟨F,G,hq1⟩:=xH Y G hp1
  refine xE ?_
  refine xr ?_
  refine Ke (Xv a0 a1) (fun s=>[(0,.c (.d (.sl 2 (List.map Jm a0)))),(1,.c (.d (.sl 2 (List.map Jm a1)))),(12,.c (.d (.v (.int .i64 s.1)))),(13,.c (.d (.v (.int .i64 s.2))))]) (fun s=>[]) [] H (xK ⟨[],[]⟩) ?_
  rintro n1 ⟨x1,x2⟩ o1 H hF1
  rw[Xv]at H
  refine xS ?_
  refine xr ?_
  rcases Jc H with⟨hp2,H⟩|⟨hp2,H⟩
  ·obtain⟨F,G,hq2⟩:=xH Y G hp2
   refine xT ?_
   refine xr ?_
   obtain⟨hg1,H⟩:=Jj H
   have F:=xZ Y (Jr Jm a0 x2.toNat default default (by omega))
   obtain⟨hg2,H⟩:=Jj H
   have F:=xZ F (Jr Jm a1 x2.toNat default default (by omega))
   refine xR ?_
   rcases Jc H with⟨hp3,H⟩|⟨hp3,H⟩
   ·obtain⟨F,G,hq3⟩:=xH Y G hp3
    refine xT ?_
    replace H:=Js H hF1
    replace H:=Option.some.inj H
    refine xr ?_
    subst H
    exact xN
   ·obtain⟨F,G,hq3⟩:=xH Y G hp3
    refine xE ?_
    refine xr ?_
    exact JD (JM H hF1) (xK ⟨[],[]⟩)
  ·obtain⟨F,G,hq2⟩:=xH Y G hp2
   replace H:=Js H hF1
   refine xE ?_
   replace H:=Option.some.inj H
   refine xr ?_
   subst H
   exact xN
theorem Jii(a0:List Bind)(a1:List Bind)(r:Bool)(H:Zq a0 a1=some r):PC JcH [(dL 2 Jm) a0,(dL 2 Jm) a1] (dB r):=PF.c (a:=(a0,a1)) H
noncomputable def JbK(a0:List Bind)(a1:Int):(Int×Int)→Option ((Int×Int) ⊕ Int)
 | (x1,x2)=>if(ltI x2 x1)=true then if(0:Int)≤x2∧x2.toNat<a0.length then if(eqI ((a0.getD x2.toNat default).Tok) a1)=true then inrO (some ((a0.getD x2.toNat default).Decl)) else some (.inl (x1,IntKind.i64.wrap (x2+1))) else none else inrO (some (-1))
noncomputable def Jdz(a0:List Bind)(a1:Int):Option Int :=
 Jt (JbK a0 a1) ((a0.length:Int),0)
noncomputable def JfT:PF:=PF.of (E2 (dL 2 Jm) dI) (fun a=>Jdz a.1 a.2) dI
theorem Jor:Kl Try.prog 12 JfT:=by
 refine xF mixed [] [] trivial trivial Try.func12 ?_
 rintro ⟨a0,a1⟩ out H
 have G:=True.intro
 have Y:=xZ y_3 <| xZ y_32 <| xZ y_40 <| xZ Try.results12 <| Jm.eq_1
 simp only[Jdz]at H
 refine xS ?_
 refine xr ?_
 refine xr ?_
 refine Ke (JbK a0 a1) (fun s=>[(1,.c (.d (.v (.int .i64 a1)))),(7,.c (.d (.sl 2 (List.map Jm a0)))),(8,.c (.d (.v (.int .i64 s.1)))),(9,.c (.d (.v (.int .i64 s.2))))]) (fun s=>[]) [] H (xK ⟨[],[]⟩) ?_
 rintro n1 ⟨x1,x2⟩ o1 H hF1
 rw[JbK]at H
 refine xS ?_
 refine xr ?_
 rcases Jc H with⟨hp1,H⟩|⟨hp1,H⟩
 ·obtain⟨F,G,hq1⟩:=xH Y G hp1
  refine xT ?_
  obtain⟨hg1,H⟩:=Jj H
  have F:=xZ Y (Jr Jm a0 x2.toNat default default (by omega))
  refine xR ?_
  refine xr ?_
  rcases Jc H with⟨hp2,H⟩|⟨hp2,H⟩
  ·obtain⟨F,G,hq2⟩:=xH Y G hp2
   refine xT ?_
   replace H:=Js H hF1
   replace H:=Option.some.inj H
   refine xr ?_
   subst H
   exact xN
  ·obtain⟨F,G,hq2⟩:=xH Y G hp2
   refine xE ?_
   refine xr ?_
   exact JD (JM H hF1) (xK ⟨[],[]⟩)
 ·obtain⟨F,G,hq1⟩:=xH Y G hp1
  replace H:=Js H hF1
  refine xE ?_
  replace H:=Option.some.inj H
  refine xr ?_
  subst H
  exact xN
theorem Jo3(a0:List Bind)(a1:Int)(r:Int)(H:Jdz a0 a1=some r):PC JfT [(dL 2 Jm) a0,dI a1] (dI r):=PF.c (a:=(a0,a1)) H
noncomputable def VW:Bool→Option Bool
 | x1=>some x1
noncomputable def Jbz(a0:List UInt8)(a1:Int):Option Bool :=
 (JbJ a0).bind fun r1=>(Jc1 r1).bind fun r2=>if(!eqI r2.2.Err 0)=true then some true else(JbI r1 r2.1).bind fun r3=>(Jav r1 r2.1).bind fun r4=>if(eqI r3.2.1 r4.2.Err && (eqI r3.2.2.1 r4.2.File && (eqI r3.2.2.2 r4.2.At)))=true then(Zq r3.1 r4.1).bind fun r5=>if r5=true then(Jer r4.1 a1).bind fun r6=>(Jdz r4.1 a1).bind fun r7=>VW (eqI r6 r7) else VW false else VW false
noncomputable def Jd1:PF:=PF.of (E2 dS dI) (fun a=>Jbz a.1 a.2) dB
theorem Jg7:Kl Try.prog 3 Jd1:=by
 refine xF mixed [(6,Jes),(7,Jef),(9,Jdy),(10,JcH),(11,Jha),(12,JfT)] [(8,true,Jb6)] ⟨⟨JxJ,Jku⟩,⟨JxP,Jkg⟩,⟨Jxv,Jiu⟩,⟨Jwb,JhM⟩,⟨Jwv,JqD⟩,⟨JwZ,Jor⟩,trivial⟩ ⟨Jk5,trivial⟩ Try.func3 ?_
 rintro ⟨a0,a1⟩ out H
 have G:=True.intro
 have Y:=xZ y_26 <| xZ y_27 <| xZ y_29 <| xZ Try.results3 <| xZ J2.eq_1 <| xZ Jb.eq_1 <| xZ JW.eq_1 <| xZ Vu <| xZ Jm.eq_1 <| JbT.eq_1
 simp only[Jbz]at H
 refine xS ?_
 refine xr ?_
 obtain⟨r1,hr1,H⟩:=Jg H
 have F:=xC Y (JkU a0 r1 hr1)
 refine xR ?_
 obtain⟨r2,hr2,H⟩:=Jg H
 have F:=xC Y (JkK r1 r2 hr2)
 refine xR ?_
 refine xr ?_
 rcases Jc H with⟨hp1,H⟩|⟨hp1,H⟩
 ·obtain⟨F,G,hq1⟩:=xH Y G hp1
  refine xT ?_
  replace H:=Option.some.inj H
  refine xr ?_
  subst H
  exact xN
 ·obtain⟨F,G,hq1⟩:=xH Y G hp1
  refine xE ?_
  obtain⟨r3,hr3,H⟩:=Jg H
  have F:=Y
  refine xQ ?_
  refine xs 2 ?_
  refine xc ⟨[],[]⟩ (tabG 0 (JkY r1 r2.1 r3 hr3)) ?_
  refine xs 5 ?_
  refine xl ?_
  refine xS ?_
  obtain⟨r4,hr4,H⟩:=Jg H
  have F:=xC Y (JjZ r1 r2.1 r4 hr4)
  refine xR0 ?_
  refine Jq ?_
  refine JB VW (fun s=>[(4,.c (.d (.v (.bool s))))]) (fun s=>[]) [] out ?_ ?_
  ·rcases Jc H with⟨hp2,H⟩|⟨hp2,H⟩
   ·obtain⟨F,G,hq2⟩:=xH Y G hp2
    obtain⟨r5,hr5,H⟩:=Jg H
    have F:=xCf F (Jii r3.1 r4.1 r5 hr5)
    rcases Jc H with⟨hp3,H⟩|⟨hp3,H⟩
    ·obtain⟨F,G,hq3⟩:=xH F G hp3
     obtain⟨r6,hr6,H⟩:=Jg H
     have F:=xCf F (Jsj r4.1 a1 r6 hr6)
     obtain⟨r7,hr7,H⟩:=Jg H
     have F:=xCf F (Jo3 r4.1 a1 r7 hr7)
     refine xR ?_
     exact Jf H (xK ⟨[],[]⟩)
    ·obtain⟨F,G,hq3⟩:=xH F G hp3
     refine xR ?_
     exact Jf H (xK ⟨[],[]⟩)
   ·obtain⟨F,G,hq2⟩:=xH Y G hp2
    refine xR ?_
    exact Jf H (xK ⟨[],[]⟩)
  ·rintro x1 H
   rw[VW]at H
   replace H:=Option.some.inj H
   refine xS ?_
   subst H
   exact xN
end Go.Proofs.Ytaofbminodhcnaa
