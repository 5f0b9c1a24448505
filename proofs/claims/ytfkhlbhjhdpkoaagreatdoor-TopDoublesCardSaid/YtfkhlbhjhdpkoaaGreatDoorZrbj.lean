/- Functions of data for functions of the program. Written by dec3.py. -/
import Derived.Test.YtfkhlbhjhdpkoaaGreatDoorZraw
import Derived.Test.YtfkhlbhjhdpkoaaGreatDoorZrbf
set_option linter.unusedVariables false
set_option linter.unusedSimpArgs false
set_option maxHeartbeats 4000000
set_option maxRecDepth 100000
namespace Go.Proofs.YtfkhlbhjhdpkoaaGreatDoor
open Go.RowKit
noncomputable def Jej(r1:Int×Bool):Bool→Option (Int×Bool)
 | x5=>if x5=true then some (0,false) else some (r1.1,true)
noncomputable def Jem:YM→Option (Int×Bool)
 | (x3,x4)=>(Jbb x3 x4 64).bind fun r1=>if(!r1.2)=true then Jej r1 true else if 0<x3.length then if(eqI ((x3.getD 0 0).toNat:Int) 43)=true then Jej r1 true else if 0<x3.length then Jej r1 (eqI ((x3.getD 0 0).toNat:Int) 45) else none else none
noncomputable def Jgb(x1:List UInt8):Bool→Option (Int×Bool)
 | x7=>if x7=true then if(0:Int)≤1∧1≤(x1.length:Int)∧(x1.length:Int)≤(x1.length:Int) then Jem (List.drop 1 x1,8) else none else Jem (x1,10)
noncomputable def Jew(x1:List UInt8):Bool→Option (Int×Bool)
 | x6=>if x6=true then if(0:Int)≤2∧2≤(x1.length:Int)∧(x1.length:Int)≤(x1.length:Int) then Jem (List.drop 2 x1,16) else none else if(ltI 1 (x1.length:Int))=true then if 0<x1.length then Jgb x1 (eqI ((x1.getD 0 0).toNat:Int) 48) else none else Jgb x1 false
noncomputable def JbZ(x1:List UInt8):Bool→Option ((List UInt8) ⊕ (Int×Bool))
 | x2=>if x2=true then if(0:Int)≤0∧0≤(IntKind.i64.wrap ((x1.length:Int)-1))∧(IntKind.i64.wrap ((x1.length:Int)-1))≤(x1.length:Int) then some (.inl (List.take ((IntKind.i64.wrap ((x1.length:Int)-1)).toNat) x1)) else none else inrO (if(ltI 2 (x1.length:Int))=true then if(0:Int)≤0∧0≤2∧2≤(x1.length:Int) then if(eqS (List.take 2 x1) [48,120])=true then Jew x1 true else if(0:Int)≤0∧0≤2∧2≤(x1.length:Int) then Jew x1 (eqS (List.take 2 x1) [48,88]) else none else none else Jew x1 false)
noncomputable def JhZ:(List UInt8)→Option ((List UInt8) ⊕ (Int×Bool))
 | x1=>if(ltI 1 (x1.length:Int))=true then if(0:Int)≤(IntKind.i64.wrap ((x1.length:Int)-1))∧(IntKind.i64.wrap ((x1.length:Int)-1)).toNat<x1.length then if(eqI ((x1.getD ((IntKind.i64.wrap ((x1.length:Int)-1)).toNat) 0).toNat:Int) 76)=true then JbZ x1 true else if(0:Int)≤(IntKind.i64.wrap ((x1.length:Int)-1))∧(IntKind.i64.wrap ((x1.length:Int)-1)).toNat<x1.length then if(eqI ((x1.getD ((IntKind.i64.wrap ((x1.length:Int)-1)).toNat) 0).toNat:Int) 85)=true then JbZ x1 true else if(0:Int)≤(IntKind.i64.wrap ((x1.length:Int)-1))∧(IntKind.i64.wrap ((x1.length:Int)-1)).toNat<x1.length then if(eqI ((x1.getD ((IntKind.i64.wrap ((x1.length:Int)-1)).toNat) 0).toNat:Int) 108)=true then JbZ x1 true else if(0:Int)≤(IntKind.i64.wrap ((x1.length:Int)-1))∧(IntKind.i64.wrap ((x1.length:Int)-1)).toNat<x1.length then JbZ x1 (eqI ((x1.getD ((IntKind.i64.wrap ((x1.length:Int)-1)).toNat) 0).toNat:Int) 117) else none else none else none else none else JbZ x1 false
noncomputable def Jjb(a0:List UInt8):Option (Int×Bool) :=
 Jt JhZ a0
noncomputable def Jh0:PF:=PF.of (E1 dS) (fun a=>Jjb a) (T2 dI dB)
theorem Ju9:JF Tryz.prog 167 Jh0:=by
 refine xF mixed [(180,Jbf)] [] ⟨⟨JzH,JjW⟩,trivial⟩ trivial Tryz.func167 ?_
 rintro a0 out H
 have G:=True.intro
 have Y:=xZ y_9 <| xZ JC2 <| Tryz.results167
 simp only[Jjb]at H
 refine xS ?_
 refine xr ?_
 refine JZ JhZ (fun s=>[(0,cS s)]) (fun s=>[]) [] H (xK ⟨[],[]⟩) ?_
 rintro n1 x1 o1 H hF1
 rw[JhZ]at H
 refine Vl ?_
 refine Jp (JbZ x1) (fun s=>[(0,cS x1),(41,cB s)]) (fun s=>[]) [] o1 ?_ ?_
 ·rcases xB Y G H with⟨p,H,F,G,q⟩|⟨p,H,F,G,q⟩
  ·obtain⟨g,H⟩:=Jd H
   rcases xB F G H with⟨p,H,F,G,q⟩|⟨p,H,F,G,q⟩
   ·refine xR ?_
    exact Jb H (xK ⟨[],[]⟩)
   obtain⟨g,H⟩:=Jd H
   rcases xB F G H with⟨p,H,F,G,q⟩|⟨p,H,F,G,q⟩
   ·refine xR ?_
    exact Jb H (xK ⟨[],[]⟩)
   obtain⟨g,H⟩:=Jd H
   rcases xB F G H with⟨p,H,F,G,q⟩|⟨p,H,F,G,q⟩
   ·refine xR ?_
    exact Jb H (xK ⟨[],[]⟩)
   obtain⟨g,H⟩:=Jd H
   refine xR ?_
   exact Jb H (xK ⟨[],[]⟩)
  refine xR ?_
  exact Jb H (xK ⟨[],[]⟩)
 rintro x2 H
 rw[JbZ]at H
 rcases xB Y G H with⟨p,H,F,G,q⟩|⟨p,H,F,G,q⟩
 ·refine xT ?_
  obtain⟨g,H⟩:=Jd H
  refine xr ?_
  exact JB (JG H hF1) (xK ⟨[],[]⟩)
 replace H:=Js H hF1
 refine xE ?_
 refine xr0 ?_
 refine Jl ?_
 refine Jp Jem (fun s=>[(0,cS s.1),(4,cI s.2)]) (fun s=>[]) [] out ?_ ?_
 ·refine JaS ?_
  refine Jp (Jew x1) (fun s=>[(0,cS x1),(4,cI 10),(47,cB s)]) (fun s=>[]) [] out ?_ ?_
  ·rcases xB Y G H with⟨p,H,F,G,q⟩|⟨p,H,F,G,q⟩
   ·obtain⟨g,H⟩:=Jd H
    rcases xB F G H with⟨p,H,F,G,q⟩|⟨p,H,F,G,q⟩
    ·refine xR ?_
     exact Jb H (xK ⟨[],[]⟩)
    obtain⟨g,H⟩:=Jd H
    refine xR ?_
    exact Jb H (xK ⟨[],[]⟩)
   refine xR ?_
   exact Jb H (xK ⟨[],[]⟩)
  rintro x6 H
  rw[Jew]at H
  rcases xB Y G H with⟨p,H,F,G,q⟩|⟨p,H,F,G,q⟩
  ·refine xT ?_
   obtain⟨g,H⟩:=Jd H
   refine xr ?_
   exact Jb H (xK ⟨[],[]⟩)
  refine xE0 ?_
  refine Jp (Jgb x1) (fun s=>[(0,cS x1),(4,cI 10),(63,cB s)]) (fun s=>[]) [] out ?_ ?_
  ·rcases xB Y G H with⟨p,H,F,G,q⟩|⟨p,H,F,G,q⟩
   ·obtain⟨g,H⟩:=Jd H
    refine xR ?_
    exact Jb H (xK ⟨[],[]⟩)
   refine xR ?_
   exact Jb H (xK ⟨[],[]⟩)
  rintro x7 H
  rw[Jgb]at H
  rcases xB Y G H with⟨p,H,F,G,q⟩|⟨p,H,F,G,q⟩
  ·refine xT ?_
   obtain⟨g,H⟩:=Jd H
   refine xr ?_
   exact Jb H (xK ⟨[],[]⟩)
  refine xE ?_
  exact Jb H (xK ⟨[],[]⟩)
 rintro ⟨x3,x4⟩ H
 rw[Jem]at H
 refine xS ?_
 obtain⟨r1,hr1,H⟩:=Ji H
 have F:=xC Y (Jka x3 x4 64 r1 hr1)
 refine xR0 ?_
 refine Jl ?_
 refine Vl ?_
 refine Jp (Jej r1) (fun s=>[(5,cI r1.1),(91,cB s)]) (fun s=>[]) [] out ?_ ?_
 ·rcases xB Y G H with⟨p,H,F,G,q⟩|⟨p,H,F,G,q⟩
  ·refine xR ?_
   exact Jb H (xK ⟨[],[]⟩)
  obtain⟨g,H⟩:=Jd H
  rcases xB F G H with⟨p,H,F,G,q⟩|⟨p,H,F,G,q⟩
  ·refine xR ?_
   exact Jb H (xK ⟨[],[]⟩)
  obtain⟨g,H⟩:=Jd H
  refine xR ?_
  exact Jb H (xK ⟨[],[]⟩)
 rintro x5 H
 rw[Jej]at H
 rcases xB Y G H with⟨p,H,F,G,q⟩|⟨p,H,F,G,q⟩
 ·refine xT ?_
  replace H:=oI H
  refine xr ?_
  subst H
  exact xN
 refine xE ?_
 replace H:=oI H
 refine xr ?_
 subst H
 exact xN
theorem Jxj(a0:List UInt8)(r:Int×Bool)(H:Jjb a0=some r):PC Jh0 [dS a0] (T2 dI dB r):=PF.c (a:=a0) H
noncomputable def Jbi(a0:List Token)(a1:Int):Bool→Option (List UInt8)
 | x1=>if x1=true then if(0:Int)≤a1∧a1.toNat<a0.length then some ((a0.getD a1.toNat default).Text) else none else some []
noncomputable def JcC(a0:List Token)(a1 a2 a3:Int):Option (List UInt8) :=
 if(ltI a1 (a0.length:Int))=true then if(0:Int)≤a1∧a1.toNat<a0.length then Jbi a0 a1 (eqI ((a0.getD a1.toNat default).Kind) 5) else none else Jbi a0 a1 false
def ZD(a0:List Token)(a1 a2 a3:Int)(r:(List UInt8)):GI :=
 ⟨[.c (.pt 1 0)],[[.d (.sl 11 (List.map Ja a0)),kI a1,kI a2,kI a3]],[],.ret (cS r) [[.d (.sl 11 (List.map Ja a0)),kI a1,kI a2,kI a3]] []⟩
def Zu:GI→Prop:=Sg4 JcC ZD
theorem JjS:∀ g,Zu g→Jm Tryz.prog 148 g:=by
 rintro _ ⟨a0,a1,a2,a3,r,H,rfl⟩
 refine xGn mixed [] [] [] trivial trivial trivial Tryz.func148 _ ?_
 have G:=True.intro
 have Y:=xZ y_3 <| xZ y_9 <| xZ y_24 <| xZ y_44 <| xZ JiH <| xZ Tryz.results148 <| xZ Jk.eq_1 <| xZ Ja.eq_1 <| ZD.eq_1
 dsimp only[ZD]
 simp only[JcC]at H
 refine xS ?_
 refine xr0 ?_
 refine Jl ?_
 refine Vl ?_
 refine Jp (Jbi a0 a1) (fun s=>[(0,.c (.pt 1 0)),(26,cB s)]) (fun s=>[[.d (.sl 11 (List.map Ja a0)),kI a1,kI a2,kI a3]]) [] r ?_ ?_
 ·rcases xB Y G H with⟨p,H,F,G,q⟩|⟨p,H,F,G,q⟩
  ·obtain⟨g,H⟩:=Jd H
   have F:=xZ F (Jh Ja a0 a1.toNat default default (by omega))
   refine xR ?_
   exact Jb H (xK ⟨[1],[]⟩)
  refine xR ?_
  exact Jb H (xK ⟨[1],[]⟩)
 rintro x1 H
 rw[Jbi]at H
 rcases xB Y G H with⟨p,H,F,G,q⟩|⟨p,H,F,G,q⟩
 ·refine xT ?_
  obtain⟨g,H⟩:=Jd H
  have F:=xZ Y (Jh Ja a0 a1.toNat default default (by omega))
  replace H:=oI H
  refine xR ?_
  subst H
  refine xrD [] ?_
  exact xO ⟨[1],[]⟩
 refine xE ?_
 replace H:=oI H
 refine xr ?_
 subst H
 refine xrD [] ?_
 exact xO ⟨[1],[]⟩
theorem Jgm:Jc Tryz.prog 148∧(∀ g,Zu g→Jm Tryz.prog 148 g)∧(true=true→∀ g,Zu g→∃ val bs ts,g.out=.ret val bs ts) :=
 ⟨JzU,JjS,fun _=>by rintro _ ⟨_,_,_,_,_,_,rfl⟩; exact⟨_,_,_,rfl⟩⟩
noncomputable def VJ(a0:List UInt8)(a1:List Token)(a2 a3 a4:Int):Option (Bool×Int) :=
 (JcC a1 a2 a3 a4).bind fun r1=>if(!eqS r1 a0)=true then some (false,a2) else some (true,IntKind.i64.wrap (a2+1))
def Jao(a0:List UInt8)(a1:List Token)(a2 a3 a4:Int)(r:(Bool×Int)):GI :=
 ⟨[.c (.pt 1 0),cS a0],[[.d (.sl 11 (List.map Ja a1)),kI a2,kI a3,kI a4]],[],.ret (cB r.1) [[.d (.sl 11 (List.map Ja a1)),kI r.2,kI a3,kI a4]] []⟩
def Jae:GI→Prop:=Sg5 VJ Jao
theorem Jkc:∀ g,Jae g→Jm Tryz.prog 128 g:=by
 rintro _ ⟨a0,a1,a2,a3,a4,r,H,rfl⟩
 refine xGn mixed [] [(148,true,Zu)] [] trivial ⟨Jgm,trivial⟩ trivial Tryz.func128 _ ?_
 have G:=True.intro
 have Y:=xZ y_3 <| xZ JiH <| xZ Tryz.results128 <| xZ Jk.eq_1 <| xZ Ja.eq_1 <| xZ ZD.eq_1 <| Jao.eq_1
 dsimp only[Jao]
 simp only[VJ]at H
 refine xS ?_
 refine xr ?_
 obtain⟨r1,hr1,H⟩:=Ji H
 have F:=Y
 refine xQ ?_
 refine xs 1 ?_
 refine xc ⟨[1],[]⟩ (tabG 0 (cg4 hr1)) ?_
 refine xs 2 ?_
 refine xl ?_
 refine xS ?_
 rcases xB Y G H with⟨p,H,F,G,q⟩|⟨p,H,F,G,q⟩
 ·refine xT ?_
  replace H:=oI H
  refine xr ?_
  subst H
  refine xrD [] ?_
  exact xO ⟨[1],[]⟩
 refine xE ?_
 refine xr ?_
 replace H:=oI H
 refine xr ?_
 subst H
 refine xrD [] ?_
 exact xO ⟨[1],[]⟩
theorem JgJ:Jc Tryz.prog 128∧(∀ g,Jae g→Jm Tryz.prog 128 g)∧(true=true→∀ g,Jae g→∃ val bs ts,g.out=.ret val bs ts) :=
 ⟨JAd,Jkc,fun _=>by rintro _ ⟨_,_,_,_,_,_,_,rfl⟩; exact⟨_,_,_,rfl⟩⟩
noncomputable def ZB(a0:List Token)(a1 a2 a3:Int):Option Int :=
 some (IntKind.i64.wrap (a2-1))
def Xa(a0:List Token)(a1 a2 a3 r:Int)(u:Option Value):DI :=
 ⟨[.c (.pt 1 0)],[[.pt 2 0],[.d (.sl 11 (List.map Ja a0)),kI a1,kI a2,kI a3]],[],u,[[.pt 2 0],[.d (.sl 11 (List.map Ja a0)),kI a1,kI r,kI a3]],[],u⟩
def Jcd:DI→Prop:=fun d=>∃ (a0:List Token) (a1 a2 a3 r:Int) (u:Option Value),ZB a0 a1 a2 a3=some r∧d=Xa a0 a1 a2 a3 r u
theorem JeZ(a0:List Token)(a1 a2 a3 r:Int)(u:Option Value)(H:ZB a0 a1 a2 a3=some r):Jcd (Xa a0 a1 a2 a3 r u):=⟨a0,a1,a2,a3,r,u,H,rfl⟩
theorem Jh6:∀ d,Jcd d→DOk Tryz.prog 166 d:=by
 rintro _ ⟨a0,a1,a2,a3,r,u,H,rfl⟩
 refine xDf mixed [] [] trivial trivial Tryz.func166 _ ?_
 have G:=True.intro
 have Y:=xZ y_3 <| xZ JAL <| xZ JiH <| xZ Tryz.results166 <| xZ Jk.eq_1 <| xZ Ja.eq_1 <| Xa.eq_1
 dsimp only[Xa]
 simp only[ZB]at H
 replace H:=oI H
 refine xr ?_
 subst H
 exact xDn ⟨[1,2],[]⟩
noncomputable def Jbg(a0:List Token)(a1 a3:Int):(Bool×Int×Int×(List UInt8)×Bool×Bool×Int×Int×Int×Int×YO×(List Call)×Int)→Option YS
 | (x1,x2,x3,x4,x5,x6,x7,x8,x9,x10,x11,x12,x13)=>if x1=true then(Jjb x4).bind fun r2=>if(eqI x3 3)=true then none else if(!r2.2)=true then none else(ZB a0 (IntKind.i64.wrap (a1+1)) x2 a3).bind fun r3=>some (r2.1,(IntKind.i64.wrap (a1+1)),r3) else(VJ [40] a0 a1 x2 a3).bind fun r4=>if r4.1=true then none else(VJ [45] a0 r4.2 x2 a3).bind fun r5=>if r5.1=true then none else(VJ [43] a0 r5.2 x2 a3).bind fun r6=>if r6.1=true then none else(VJ [126] a0 r6.2 x2 a3).bind fun r7=>if r7.1=true then none else(VJ [33] a0 r7.2 x2 a3).bind fun r8=>if r8.1=true then none else none
noncomputable def JeO(a0:List Token)(a1 a2 a3:Int):Option YS :=
 if(eqI a2 30)=true then none else if(eqI a1 (a0.length:Int))=true then none else if(0:Int)≤a1∧a1.toNat<a0.length then if(eqI ((a0.getD a1.toNat default).Kind) 1)=true then(ZB a0 (IntKind.i64.wrap (a1+1)) (IntKind.i64.wrap (a2+1)) a3).bind fun r1=>some (0,(IntKind.i64.wrap (a1+1)),r1) else if(eqI ((a0.getD a1.toNat default).Kind) 2)=true then Jbg a0 a1 a3 (true,IntKind.i64.wrap (a2+1),(a0.getD a1.toNat default).Kind,(a0.getD a1.toNat default).Text,(a0.getD a1.toNat default).Space,(a0.getD a1.toNat default).First,(a0.getD a1.toNat default).File,(a0.getD a1.toNat default).At,(a0.getD a1.toNat default).End,(a0.getD a1.toNat default).Line,(a0.getD a1.toNat default).Hide,(a0.getD a1.toNat default).Calls,(a0.getD a1.toNat default).Made) else Jbg a0 a1 a3 (eqI ((a0.getD a1.toNat default).Kind) 3,IntKind.i64.wrap (a2+1),(a0.getD a1.toNat default).Kind,(a0.getD a1.toNat default).Text,(a0.getD a1.toNat default).Space,(a0.getD a1.toNat default).First,(a0.getD a1.toNat default).File,(a0.getD a1.toNat default).At,(a0.getD a1.toNat default).End,(a0.getD a1.toNat default).Line,(a0.getD a1.toNat default).Hide,(a0.getD a1.toNat default).Calls,(a0.getD a1.toNat default).Made) else none
def Jbx(a0:List Token)(a1 a2 a3:Int)(r:YS):GI :=
 ⟨[.c (.pt 1 0)],[[.d (.sl 11 (List.map Ja a0)),kI a1,kI a2,kI a3]],[],.ret (cI r.1) [[.d (.sl 11 (List.map Ja a0)),kI r.2.1,kI r.2.2,kI a3]] []⟩
def JbM:GI→Prop:=Sg4 JeO Jbx
theorem JjQ:∀ g,JbM g→Jm Tryz.prog 147 g:=by
 rintro _ ⟨a0,a1,a2,a3,r,H,rfl⟩
 refine xGn mixed [(167,Jh0)] [(128,true,Jae)] [(166,Jcd)] ⟨⟨JAh,Ju9⟩,trivial⟩ ⟨JgJ,trivial⟩ ⟨⟨Jzy,Jh6⟩,trivial⟩ Tryz.func147 _ ?_
 have G:=True.intro
 have Y:=xZ y_3 <| xZ y_9 <| xZ y_24 <| xZ y_44 <| xZ JAL <| xZ JiH <| xZ Tryz.results147 <| xZ Jk.eq_1 <| xZ Ja.eq_1 <| xZ Jao.eq_1 <| xZ Xa.eq_1 <| Jbx.eq_1
 dsimp only[Jbx]
 simp only[JeO]at H
 refine xS ?_
 refine xr ?_
 refine xr ?_
 rcases xB Y G H with⟨p,H,F,G,q⟩|⟨p,H,F,G,q⟩
 ·refine xT ?_
  cases H
 refine xE ?_
 refine xr ?_
 have F:=Y
 refine xQ ?_
 refine xs 1 ?_
 refine xw ?_
 refine xl ?_
 refine xS ?_
 refine xr ?_
 rcases xB Y G H with⟨p,H,F,G,q⟩|⟨p,H,F,G,q⟩
 ·refine xT ?_
  cases H
 refine xE ?_
 obtain⟨g,H⟩:=Jd H
 have F:=xZ Y (Jh Ja a0 a1.toNat default default (by omega))
 refine xR ?_
 refine xr ?_
 rcases xB Y G H with⟨p,H,F,G,q⟩|⟨p,H,F,G,q⟩
 ·refine xT ?_
  refine xr ?_
  refine xr ?_
  refine xrD [(166,[.pt 2 0])] ?_
  obtain⟨r1,hr1,H⟩:=Ji H
  refine xD ⟨[2,1],[]⟩ (tabD 0 (JeZ a0 (IntKind.i64.wrap (a1+1)) (IntKind.i64.wrap (a2+1)) a3 r1 none hr1)) ?_
  replace H:=oI H
  subst H
  exact xO ⟨[1],[]⟩
 refine xE0 ?_
 refine Jp (Jbg a0 a1 a3) (fun s=>[(1,.c (.pt 2 0)),(3,.c (.pt 3 0)),(55,cB s.1),(1000000,.df [(166,[.pt 2 0])])]) (fun s=>[[.d (.sl 11 (List.map Ja a0)),kI a1,kI s.2.1,kI a3],[.pt 1 0],[kI s.2.2.1,kS s.2.2.2.1,kB s.2.2.2.2.1,kB s.2.2.2.2.2.1,kI s.2.2.2.2.2.2.1,kI s.2.2.2.2.2.2.2.1,kI s.2.2.2.2.2.2.2.2.1,kI s.2.2.2.2.2.2.2.2.2.1,.d (.sl 1 (List.map dS s.2.2.2.2.2.2.2.2.2.2.1)),.d (.sl 3 (List.map Jk s.2.2.2.2.2.2.2.2.2.2.2.1)),kI s.2.2.2.2.2.2.2.2.2.2.2.2]]) [] r ?_ ?_
 ·rcases xB Y G H with⟨p,H,F,G,q⟩|⟨p,H,F,G,q⟩
  ·refine xR ?_
   exact Jb H (xK ⟨[1,2,3],[]⟩)
  refine xR ?_
  exact Jb H (xK ⟨[1,2,3],[]⟩)
 rintro ⟨x1,x2,x3,x4,x5,x6,x7,x8,x9,x10,x11,x12,x13⟩ H
 rw[Jbg]at H
 rcases xB Y G H with⟨p,H,F,G,q⟩|⟨p,H,F,G,q⟩
 ·refine xT ?_
  obtain⟨r2,hr2,H⟩:=Ji H
  have F:=xC Y (Jxj x4 r2 hr2)
  refine xR ?_
  refine xr ?_
  rcases xB Y G H with⟨p,H,F,G,q⟩|⟨p,H,F,G,q⟩
  ·refine xT ?_
   cases H
  refine xE ?_
  refine xr ?_
  rcases xB Y G H with⟨p,H,F,G,q⟩|⟨p,H,F,G,q⟩
  ·refine xT ?_
   cases H
  refine xE ?_
  refine xr ?_
  refine xr ?_
  refine xrD [(166,[.pt 2 0])] ?_
  obtain⟨r3,hr3,H⟩:=Ji H
  refine xD ⟨[2,1],[]⟩ (tabD 0 (JeZ a0 (IntKind.i64.wrap (a1+1)) x2 a3 r3 none hr3)) ?_
  replace H:=oI H
  subst H
  exact xO ⟨[1],[]⟩
 refine xE ?_
 obtain⟨r4,hr4,H⟩:=Ji H
 have F:=Y
 refine xQ ?_
 refine xs 1 ?_
 refine xc ⟨[1],[]⟩ (tabG 0 (cg5 hr4)) ?_
 refine xs 1 ?_
 refine xl ?_
 refine xS ?_
 rcases xB Y G H with⟨p,H,F,G,q⟩|⟨p,H,F,G,q⟩
 ·refine xT ?_
  cases H
 refine xE ?_
 obtain⟨r5,hr5,H⟩:=Ji H
 have F:=Y
 refine xQ ?_
 refine xs 1 ?_
 refine xc ⟨[1],[]⟩ (tabG 0 (cg5 hr5)) ?_
 refine xs 1 ?_
 refine xl ?_
 refine xS ?_
 rcases xB Y G H with⟨p,H,F,G,q⟩|⟨p,H,F,G,q⟩
 ·refine xT ?_
  cases H
 refine xE ?_
 obtain⟨r6,hr6,H⟩:=Ji H
 have F:=Y
 refine xQ ?_
 refine xs 1 ?_
 refine xc ⟨[1],[]⟩ (tabG 0 (cg5 hr6)) ?_
 refine xs 1 ?_
 refine xl ?_
 refine xS ?_
 rcases xB Y G H with⟨p,H,F,G,q⟩|⟨p,H,F,G,q⟩
 ·refine xT ?_
  cases H
 refine xE ?_
 obtain⟨r7,hr7,H⟩:=Ji H
 have F:=Y
 refine xQ ?_
 refine xs 1 ?_
 refine xc ⟨[1],[]⟩ (tabG 0 (cg5 hr7)) ?_
 refine xs 1 ?_
 refine xl ?_
 refine xS ?_
 rcases xB Y G H with⟨p,H,F,G,q⟩|⟨p,H,F,G,q⟩
 ·refine xT ?_
  cases H
 refine xE ?_
 obtain⟨r8,hr8,H⟩:=Ji H
 have F:=Y
 refine xQ ?_
 refine xs 1 ?_
 refine xc ⟨[1],[]⟩ (tabG 0 (cg5 hr8)) ?_
 refine xs 1 ?_
 refine xl ?_
 refine xS ?_
 rcases xB Y G H with⟨p,H,F,G,q⟩|⟨p,H,F,G,q⟩
 ·refine xT ?_
  cases H
 refine xE ?_
 cases H
theorem Jj4:Jc Tryz.prog 147∧(∀ g,JbM g→Jm Tryz.prog 147 g)∧(true=true→∀ g,JbM g→∃ val bs ts,g.out=.ret val bs ts) :=
 ⟨JzA,JjQ,fun _=>by rintro _ ⟨_,_,_,_,_,_,rfl⟩; exact⟨_,_,_,rfl⟩⟩
noncomputable def JcU:Bool→Option Int
 | x5=>if x5=true then some 10 else some 0
noncomputable def JeG(a0:List UInt8):Bool→Option Int
 | x4=>if x4=true then some 9 else if(eqS a0 [42])=true then JcU true else if(eqS a0 [47])=true then JcU true else JcU (eqS a0 [37])
noncomputable def JeA(a0:List UInt8):Bool→Option Int
 | x3=>if x3=true then some 8 else if(eqS a0 [43])=true then JeG a0 true else JeG a0 (eqS a0 [45])
noncomputable def Jbs(a0:List UInt8):Bool→Option Int
 | x2=>if x2=true then some 7 else if(eqS a0 [60,60])=true then JeA a0 true else JeA a0 (eqS a0 [62,62])
noncomputable def JeM(a0:List UInt8):Bool→Option Int
 | x1=>if x1=true then some 6 else if(eqS a0 [60])=true then Jbs a0 true else if(eqS a0 [62])=true then Jbs a0 true else if(eqS a0 [60,61])=true then Jbs a0 true else Jbs a0 (eqS a0 [62,61])
noncomputable def JgQ(a0:List UInt8):Option Int :=
 if(eqS a0 [124,124])=true then some 1 else if(eqS a0 [38,38])=true then some 2 else if(eqS a0 [124])=true then some 3 else if(eqS a0 [94])=true then some 4 else if(eqS a0 [38])=true then some 5 else if(eqS a0 [61,61])=true then JeM a0 true else JeM a0 (eqS a0 [33,61])
noncomputable def Jgw:PF:=PF.of (E1 dS) (fun a=>JgQ a) dI
theorem Jsh:JF Tryz.prog 149 Jgw:=by
 refine xF mixed [] [] trivial trivial Tryz.func149 ?_
 rintro a0 out H
 have G:=True.intro
 have Y:=Tryz.results149
 simp only[JgQ]at H
 refine xS ?_
 refine xr ?_
 refine xr ?_
 refine xr ?_
 rcases xB Y G H with⟨p,H,F,G,q⟩|⟨p,H,F,G,q⟩
 ·refine xT ?_
  replace H:=oI H
  refine xr ?_
  subst H
  exact xN
 refine xE ?_
 refine xr ?_
 rcases xB Y G H with⟨p,H,F,G,q⟩|⟨p,H,F,G,q⟩
 ·refine xT ?_
  replace H:=oI H
  refine xr ?_
  subst H
  exact xN
 refine xE ?_
 refine xr ?_
 rcases xB Y G H with⟨p,H,F,G,q⟩|⟨p,H,F,G,q⟩
 ·refine xT ?_
  replace H:=oI H
  refine xr ?_
  subst H
  exact xN
 refine xE ?_
 refine xr ?_
 rcases xB Y G H with⟨p,H,F,G,q⟩|⟨p,H,F,G,q⟩
 ·refine xT ?_
  replace H:=oI H
  refine xr ?_
  subst H
  exact xN
 refine xE ?_
 refine xr ?_
 rcases xB Y G H with⟨p,H,F,G,q⟩|⟨p,H,F,G,q⟩
 ·refine xT ?_
  replace H:=oI H
  refine xr ?_
  subst H
  exact xN
 refine xE0 ?_
 refine Jp (JeM a0) (fun s=>[(3,cS a0),(14,cB s)]) (fun s=>[]) [] out ?_ ?_
 ·refine xS ?_
  refine xr ?_
  rcases xB Y G H with⟨p,H,F,G,q⟩|⟨p,H,F,G,q⟩
  ·refine xT ?_
   exact Jb H (xK ⟨[],[]⟩)
  refine xE ?_
  refine xr ?_
  exact Jb H (xK ⟨[],[]⟩)
 rintro x1 H
 rw[JeM]at H
 rcases xB Y G H with⟨p,H,F,G,q⟩|⟨p,H,F,G,q⟩
 ·refine xT ?_
  replace H:=oI H
  refine xr ?_
  subst H
  exact xN
 refine xE0 ?_
 refine Jp (Jbs a0) (fun s=>[(3,cS a0),(17,cB s)]) (fun s=>[]) [] out ?_ ?_
 ·refine xS ?_
  refine xr ?_
  rcases xB Y G H with⟨p,H,F,G,q⟩|⟨p,H,F,G,q⟩
  ·refine xT ?_
   exact Jb H (xK ⟨[],[]⟩)
  refine xE ?_
  refine xr ?_
  rcases xB Y G H with⟨p,H,F,G,q⟩|⟨p,H,F,G,q⟩
  ·refine xT ?_
   exact Jb H (xK ⟨[],[]⟩)
  refine xE ?_
  refine xr ?_
  rcases xB Y G H with⟨p,H,F,G,q⟩|⟨p,H,F,G,q⟩
  ·refine xT ?_
   exact Jb H (xK ⟨[],[]⟩)
  refine xE ?_
  refine xr ?_
  exact Jb H (xK ⟨[],[]⟩)
 rintro x2 H
 rw[Jbs]at H
 rcases xB Y G H with⟨p,H,F,G,q⟩|⟨p,H,F,G,q⟩
 ·refine xT ?_
  replace H:=oI H
  refine xr ?_
  subst H
  exact xN
 refine xE0 ?_
 refine Jp (JeA a0) (fun s=>[(3,cS a0),(22,cB s)]) (fun s=>[]) [] out ?_ ?_
 ·refine xS ?_
  refine xr ?_
  rcases xB Y G H with⟨p,H,F,G,q⟩|⟨p,H,F,G,q⟩
  ·refine xT ?_
   exact Jb H (xK ⟨[],[]⟩)
  refine xE ?_
  refine xr ?_
  exact Jb H (xK ⟨[],[]⟩)
 rintro x3 H
 rw[JeA]at H
 rcases xB Y G H with⟨p,H,F,G,q⟩|⟨p,H,F,G,q⟩
 ·refine xT ?_
  replace H:=oI H
  refine xr ?_
  subst H
  exact xN
 refine xE0 ?_
 refine Jp (JeG a0) (fun s=>[(3,cS a0),(25,cB s)]) (fun s=>[]) [] out ?_ ?_
 ·refine xS ?_
  refine xr ?_
  rcases xB Y G H with⟨p,H,F,G,q⟩|⟨p,H,F,G,q⟩
  ·refine xT ?_
   exact Jb H (xK ⟨[],[]⟩)
  refine xE ?_
  refine xr ?_
  exact Jb H (xK ⟨[],[]⟩)
 rintro x4 H
 rw[JeG]at H
 rcases xB Y G H with⟨p,H,F,G,q⟩|⟨p,H,F,G,q⟩
 ·refine xT ?_
  replace H:=oI H
  refine xr ?_
  subst H
  exact xN
 refine xE0 ?_
 refine Jp JcU (fun s=>[(28,cB s)]) (fun s=>[]) [] out ?_ ?_
 ·refine xS ?_
  refine xr ?_
  rcases xB Y G H with⟨p,H,F,G,q⟩|⟨p,H,F,G,q⟩
  ·refine xT ?_
   exact Jb H (xK ⟨[],[]⟩)
  refine xE ?_
  refine xr ?_
  rcases xB Y G H with⟨p,H,F,G,q⟩|⟨p,H,F,G,q⟩
  ·refine xT ?_
   exact Jb H (xK ⟨[],[]⟩)
  refine xE ?_
  refine xr ?_
  exact Jb H (xK ⟨[],[]⟩)
 rintro x5 H
 rw[JcU]at H
 rcases xB Y G H with⟨p,H,F,G,q⟩|⟨p,H,F,G,q⟩
 ·refine xT ?_
  replace H:=oI H
  refine xr ?_
  subst H
  exact xN
 refine xE ?_
 replace H:=oI H
 refine xr ?_
 subst H
 exact xN
theorem Juh(a0:List UInt8)(r:Int)(H:JgQ a0=some r):PC Jgw [dS a0] (dI r):=PF.c (a:=a0) H
noncomputable def Z3:(Bool×Int)→Option YD
 | (x4,x5)=>none
noncomputable def KL(a4:Int):(Bool×Int)→Option YD
 | (x2,x3)=>if x2=true then Z3 (true,IntKind.i64.wrap (a4+1)) else Z3 (false,a4)
noncomputable def ZZ(a4:Int)(r1:YS)(r2:(List UInt8)):Bool→Option YD
 | x1=>if x1=true then inrO (some (r1.1,r1.2.1,r1.2.2)) else if(eqS r2 [38,38])=true then if(eqI r1.1 0)=true then KL a4 (true,IntKind.i64.wrap (r1.2.1+1)) else if(eqS r2 [124,124])=true then KL a4 (true,IntKind.i64.wrap (r1.2.1+1)) else KL a4 (false,IntKind.i64.wrap (r1.2.1+1)) else if(eqS r2 [124,124])=true then KL a4 (!eqI r1.1 0,IntKind.i64.wrap (r1.2.1+1)) else KL a4 (false,IntKind.i64.wrap (r1.2.1+1))
noncomputable def Jcc(a0:Int)(a1:List Token)(a4:Int)(r1:YS):Unit→Option YD
 | ()=>(JcC a1 r1.2.1 r1.2.2 a4).bind fun r2=>(JgQ r2).bind fun r3=>if(eqI r3 0)=true then ZZ a4 r1 r2 true else ZZ a4 r1 r2 (ltI r3 a0)
noncomputable def JdE(a0:Int)(a1:List Token)(a2 a3 a4:Int):Option YS :=
 (JeO a1 a2 a3 a4).bind fun r1=>Jt (Jcc a0 a1 a4 r1) ()
def JaE(a0:Int)(a1:List Token)(a2 a3 a4:Int)(r:YS):GI :=
 ⟨[.c (.pt 1 0),cI a0],[[.d (.sl 11 (List.map Ja a1)),kI a2,kI a3,kI a4]],[],.ret (cI r.1) [[.d (.sl 11 (List.map Ja a1)),kI r.2.1,kI r.2.2,kI a4]] []⟩
def Jaq:GI→Prop:=Sg5 JdE JaE
theorem Jik:∀ g,Jaq g→Jm Tryz.prog 127 g:=by
 rintro _ ⟨a0,a1,a2,a3,a4,r,H,rfl⟩
 refine xGn mixed [(149,Jgw)] [(147,true,JbM),(148,true,Zu)] [] ⟨⟨JAA,Jsh⟩,trivial⟩ ⟨Jj4,Jgm,trivial⟩ trivial Tryz.func127 _ ?_
 have G:=True.intro
 have Y:=xZ y_3 <| xZ JiH <| xZ Tryz.results127 <| xZ Jk.eq_1 <| xZ Ja.eq_1 <| xZ Jbx.eq_1 <| xZ ZD.eq_1 <| JaE.eq_1
 dsimp only[JaE]
 simp only[JdE]at H
 refine xS ?_
 refine xr ?_
 obtain⟨r1,hr1,H⟩:=Ji H
 have F:=Y
 refine xQ ?_
 refine xs 1 ?_
 refine xc ⟨[1],[]⟩ (tabG 0 (cg4 hr1)) ?_
 refine xs 1 ?_
 refine xl ?_
 refine xS ?_
 refine JZ (Jcc a0 a1 a4 r1) (fun s=>[(0,.c (.pt 1 0)),(1,cI a0),(5,cI r1.1)]) (fun s=>[[.d (.sl 11 (List.map Ja a1)),kI r1.2.1,kI r1.2.2,kI a4]]) [] H (xK ⟨[1],[]⟩) ?_
 rintro n1 ⟨⟩ o1 H hF1
 rw[Jcc]at H
 refine xS ?_
 obtain⟨r2,hr2,H⟩:=Ji H
 have F:=Y
 refine xQ ?_
 refine xs 1 ?_
 refine xc ⟨[1],[]⟩ (tabG 1 (cg4 hr2)) ?_
 refine xs 1 ?_
 refine xl ?_
 refine xS ?_
 obtain⟨r3,hr3,H⟩:=Ji H
 have F:=xC Y (Juh r2 r3 hr3)
 refine xR0 ?_
 refine Jl ?_
 refine Vl ?_
 refine Jp (ZZ a4 r1 r2) (fun s=>[(0,.c (.pt 1 0)),(1,cI a0),(5,cI r1.1),(6,cS r2),(7,cI r3),(23,cB s)]) (fun s=>[[.d (.sl 11 (List.map Ja a1)),kI r1.2.1,kI r1.2.2,kI a4]]) [] o1 ?_ ?_
 ·rcases xB Y G H with⟨p,H,F,G,q⟩|⟨p,H,F,G,q⟩
  ·refine xR ?_
   exact Jb H (xK ⟨[1],[]⟩)
  refine xR ?_
  exact Jb H (xK ⟨[1],[]⟩)
 rintro x1 H
 rw[ZZ]at H
 rcases xB Y G H with⟨p,H,F,G,q⟩|⟨p,H,F,G,q⟩
 ·refine xT ?_
  replace H:=Js H hF1
  replace H:=oI H
  refine xr ?_
  subst H
  refine xrD [] ?_
  exact xO ⟨[1],[]⟩
 refine xE ?_
 refine xr ?_
 refine xr0 ?_
 refine Jl ?_
 refine Jp (KL a4) (fun s=>[(0,.c (.pt 1 0)),(1,cI a0),(5,cI r1.1),(6,cS r2),(7,cI r3),(8,cI r1.2.1),(9,cB s.1)]) (fun s=>[[.d (.sl 11 (List.map Ja a1)),kI s.2,kI r1.2.2,kI a4]]) [] o1 ?_ ?_
 ·rcases xB Y G H with⟨p,H,F,G,q⟩|⟨p,H,F,G,q⟩
  ·rcases xB F G H with⟨p,H,F,G,q⟩|⟨p,H,F,G,q⟩
   ·refine xR ?_
    exact Jb H (xK ⟨[1],[]⟩)
   rcases xB F G H with⟨p,H,F,G,q⟩|⟨p,H,F,G,q⟩
   ·refine xR ?_
    exact Jb H (xK ⟨[1],[]⟩)
   refine xR ?_
   exact Jb H (xK ⟨[1],[]⟩)
  rcases xB F G H with⟨p,H,F,G,q⟩|⟨p,H,F,G,q⟩
  ·refine xR ?_
   exact Jb H (xK ⟨[1],[]⟩)
  refine xR ?_
  exact Jb H (xK ⟨[1],[]⟩)
 rintro ⟨x2,x3⟩ H
 rw[KL]at H
 refine Jp Z3 (fun s=>[(0,.c (.pt 1 0)),(1,cI a0),(5,cI r1.1),(6,cS r2),(7,cI r3),(8,cI r1.2.1),(9,cB s.1)]) (fun s=>[[.d (.sl 11 (List.map Ja a1)),kI x3,kI r1.2.2,kI s.2]]) [] o1 ?_ ?_
 ·refine xS ?_
  refine xr ?_
  rcases xB Y G H with⟨p,H,F,G,q⟩|⟨p,H,F,G,q⟩
  ·refine xT ?_
   refine xr ?_
   exact Jb H (xK ⟨[1],[]⟩)
  refine xE ?_
  exact Jb H (xK ⟨[1],[]⟩)
 rintro ⟨x4,x5⟩ H
 rw[Z3]at H
 refine xS ?_
 cases H
theorem Ji6:Jc Tryz.prog 127∧(∀ g,Jaq g→Jm Tryz.prog 127 g)∧(true=true→∀ g,Jaq g→∃ val bs ts,g.out=.ret val bs ts) :=
 ⟨JAg,Jik,fun _=>by rintro _ ⟨_,_,_,_,_,_,_,rfl⟩; exact⟨_,_,_,rfl⟩⟩
noncomputable def Z0:(Bool×Int)→Option YD
 | (x1,x2)=>none
noncomputable def Jch(a3:Int)(r1:YS):Unit→Option YD
 | ()=>if(eqB (!eqI r1.1 0) (eqI 0 1))=true then Z0 (true,IntKind.i64.wrap (a3+1)) else Z0 (false,a3)
noncomputable def Jdx(a0:List Token)(a1 a2 a3:Int):Option YS :=
 (JdE 1 a0 a1 a2 a3).bind fun r1=>(VJ [63] a0 r1.2.1 r1.2.2 a3).bind fun r2=>if(!r2.1)=true then some (r1.1,r2.2,r1.2.2) else Jt (Jch a3 r1) ()
def Jav(a0:List Token)(a1 a2 a3:Int)(r:YS):GI :=
 ⟨[.c (.pt 1 0)],[[.d (.sl 11 (List.map Ja a0)),kI a1,kI a2,kI a3]],[],.ret (cI r.1) [[.d (.sl 11 (List.map Ja a0)),kI r.2.1,kI r.2.2,kI a3]] []⟩
def JaH:GI→Prop:=Sg4 Jdx Jav
theorem Jim:∀ g,JaH g→Jm Tryz.prog 106 g:=by
 rintro _ ⟨a0,a1,a2,a3,r,H,rfl⟩
 refine xGn mixed [] [(127,true,Jaq),(128,true,Jae)] [] trivial ⟨Ji6,JgJ,trivial⟩ trivial Tryz.func106 _ ?_
 have G:=True.intro
 have Y:=xZ y_3 <| xZ y_4 <| xZ JiH <| xZ JC7 <| xZ Tryz.results106 <| xZ Jk.eq_1 <| xZ Ja.eq_1 <| xZ JaE.eq_1 <| xZ Jao.eq_1 <| Jav.eq_1
 dsimp only[Jav]
 simp only[Jdx]at H
 refine xS ?_
 refine xr ?_
 obtain⟨r1,hr1,H⟩:=Ji H
 have F:=Y
 refine xQ ?_
 refine xs 1 ?_
 refine xc ⟨[1],[]⟩ (tabG 0 (cg5 hr1)) ?_
 refine xs 1 ?_
 refine xl ?_
 refine xS ?_
 obtain⟨r2,hr2,H⟩:=Ji H
 have F:=Y
 refine xQ ?_
 refine xs 1 ?_
 refine xc ⟨[1],[]⟩ (tabG 1 (cg5 hr2)) ?_
 refine xs 1 ?_
 refine xl ?_
 refine xS ?_
 rcases xB Y G H with⟨p,H,F,G,q⟩|⟨p,H,F,G,q⟩
 ·refine xT ?_
  replace H:=oI H
  refine xr ?_
  subst H
  refine xrD [] ?_
  exact xO ⟨[1],[]⟩
 refine xE ?_
 refine xr ?_
 refine xr ?_
 refine JZ (Jch a3 r1) (fun s=>[(0,.c (.pt 1 0)),(3,cI r1.1),(4,.c (.pt 2 0)),(14,cI 0)]) (fun s=>[[.d (.sl 11 (List.map Ja a0)),kI r2.2,kI r1.2.2,kI a3],[kI 0,kI 0]]) [] H (xK ⟨[1,4],[]⟩) ?_
 rintro n1 ⟨⟩ o1 H hF1
 rw[Jch]at H
 refine xS ?_
 refine xr ?_
 refine xt ?_
 refine xr ?_
 refine xr0 ?_
 refine Jl ?_
 refine Jp Z0 (fun s=>[(0,.c (.pt 1 0)),(3,cI r1.1),(4,.c (.pt 2 0)),(5,cI 0),(6,cB s.1),(14,cI 0)]) (fun s=>[[.d (.sl 11 (List.map Ja a0)),kI r2.2,kI r1.2.2,kI s.2],[kI 0,kI 0]]) [] o1 ?_ ?_
 ·refine xS ?_
  refine xr ?_
  rcases xB Y G H with⟨p,H,F,G,q⟩|⟨p,H,F,G,q⟩
  ·refine xT ?_
   refine xr ?_
   exact Jb H (xK ⟨[1,2],[]⟩)
  refine xE ?_
  exact Jb H (xK ⟨[1,2],[]⟩)
 rintro ⟨x1,x2⟩ H
 rw[Z0]at H
 refine xS ?_
 cases H
theorem Jja:Jc Tryz.prog 106∧(∀ g,JaH g→Jm Tryz.prog 106 g)∧(true=true→∀ g,JaH g→∃ val bs ts,g.out=.ret val bs ts) :=
 ⟨Jzj,Jim,fun _=>by rintro _ ⟨_,_,_,_,_,_,rfl⟩; exact⟨_,_,_,rfl⟩⟩
noncomputable def Jgf(a0 a1 a2 a3:Int):Option Unit :=
 some ()
def Jcp(a0 a1 a2 a3:Int)(r:Unit):DI :=
 ⟨[.c (.pt 1 0),.c (.pt 2 0)],[[kI a0],[kI a1,kI a2,kI a3]],[],none,[[kI a0],[kI a1,kI a2,kI a3]],[],none⟩
def Jf4:DI→Prop:=fun d=>∃ (a0 a1 a2 a3:Int) (r:Unit),Jgf a0 a1 a2 a3=some r∧d=Jcp a0 a1 a2 a3 r
theorem JoX(a0 a1 a2 a3:Int)(r:Unit)(H:Jgf a0 a1 a2 a3=some r):Jf4 (Jcp a0 a1 a2 a3 r):=⟨a0,a1,a2,a3,r,H,rfl⟩
theorem Joh:∀ d,Jf4 d→DOk Tryz.prog 105 d:=by
 rintro _ ⟨a0,a1,a2,a3,r,H,rfl⟩
 refine xRcl mixed [7] [] [] trivial trivial Tryz.func105 _ ?_
 have G:=True.intro
 have Y:=xZ y_3 <| xZ y_20 <| xZ y_31 <| xZ JC5 <| xZ Tryz.results105 <| Jcp.eq_1
 dsimp only[Jcp,Option.getD_some,Option.getD_none]
 unfold Jgf at H
 refine xS ?_
 refine xr ?_
 refine xt ?_
 replace H:=oI H
 refine xr ?_
 subst H
 exact xDn ⟨[1,2],[]⟩
noncomputable def Jkj(a0:List Token):Option (Int×Int) :=
 (Jdx a0 0 0 0).bind fun r1=>if(ltI r1.2.1 (a0.length:Int))=true then none else(Jgf r1.1 0 (-1) 0).bind fun r2=>some (r1.1,(-1))
def Jgd(a0:List Token)(r:(Int×Int)):GI :=
 ⟨[.c (.d (.sl 11 (List.map Ja a0)))],[],[],.ret (.tu [(false,[kI r.1]),(true,[kI 0,kI r.2,kI 0])]) [] []⟩
def Jgi:GI→Prop:=Sg1 Jkj Jgd
theorem JsP:∀ g,Jgi g→Jm Tryz.prog 79 g:=by
 rintro _ ⟨a0,r,H,rfl⟩
 refine xGn mixed [] [(106,true,JaH)] [(105,Jf4)] trivial ⟨Jja,trivial⟩ ⟨⟨Jz6,Joh⟩,trivial⟩ Tryz.func79 _ ?_
 have G:=True.intro
 have Y:=xZ y_3 <| xZ y_24 <| xZ y_29 <| xZ y_31 <| xZ y_44 <| xZ JiH <| xZ Tryz.results79 <| xZ Jk.eq_1 <| xZ Ja.eq_1 <| xZ Jav.eq_1 <| xZ Jcp.eq_1 <| Jgd.eq_1
 dsimp only[Jgd]
 simp only[Jkj]at H
 refine xS ?_
 refine xr ?_
 have F:=Y
 refine xQ ?_
 refine xs 1 ?_
 refine xw ?_
 refine xl ?_
 refine xS ?_
 refine xr ?_
 obtain⟨r1,hr1,H⟩:=Ji H
 have F:=Y
 refine xQ ?_
 refine xs 1 ?_
 refine xc ⟨[3],[]⟩ (tabG 0 (cg4 hr1)) ?_
 refine xs 1 ?_
 refine xl ?_
 refine xS ?_
 refine xr ?_
 rcases xB Y G H with⟨p,H,F,G,q⟩|⟨p,H,F,G,q⟩
 ·refine xT ?_
  cases H
 refine xE ?_
 refine xr ?_
 refine xrD [(105,[.pt 1 0,.pt 2 0])] ?_
 obtain⟨r2,hr2,H⟩:=Ji H
 refine xD ⟨[1,2],[]⟩ (tabD 0 (JoX r1.1 0 (-1) 0 r2 hr2)) ?_
 replace H:=oI H
 subst H
 exact xO ⟨[],[]⟩
theorem Jh2:Jc Tryz.prog 79∧(∀ g,Jgi g→Jm Tryz.prog 79 g)∧(true=true→∀ g,Jgi g→∃ val bs ts,g.out=.ret val bs ts) :=
 ⟨JBH,JsP,fun _=>by rintro _ ⟨_,_,_,rfl⟩; exact⟨_,_,_,rfl⟩⟩
end Go.Proofs.YtfkhlbhjhdpkoaaGreatDoor
