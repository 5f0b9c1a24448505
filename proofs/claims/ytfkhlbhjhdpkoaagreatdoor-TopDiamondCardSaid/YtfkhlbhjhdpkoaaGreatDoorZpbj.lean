/- Functions of data for functions of the program. Written by dec3.py. -/
import Derived.Test.YtfkhlbhjhdpkoaaGreatDoorZpaw
import Derived.Test.YtfkhlbhjhdpkoaaGreatDoorZpbf
set_option linter.unusedVariables false
set_option linter.unusedSimpArgs false
set_option maxHeartbeats 4000000
set_option maxRecDepth 100000
namespace Go.Proofs.YtfkhlbhjhdpkoaaGreatDoor
open Go.RowKit
noncomputable def Jey(r1:Int×Bool):Bool→Option (Int×Bool)
 | x5=>if x5=true then some (0,false) else some (r1.1,true)
noncomputable def Jeq:YP→Option (Int×Bool)
 | (x3,x4)=>(Jbb x3 x4 64).bind fun r1=>if(!r1.2)=true then Jey r1 true else if 0<x3.length then if(eqI ((x3.getD 0 0).toNat:Int) 43)=true then Jey r1 true else if 0<x3.length then Jey r1 (eqI ((x3.getD 0 0).toNat:Int) 45) else none else none
noncomputable def Jgf(x1:List UInt8):Bool→Option (Int×Bool)
 | x7=>if x7=true then if(0:Int)≤1∧1≤(x1.length:Int)∧(x1.length:Int)≤(x1.length:Int) then Jeq (List.drop 1 x1,8) else none else Jeq (x1,10)
noncomputable def Jeu(x1:List UInt8):Bool→Option (Int×Bool)
 | x6=>if x6=true then if(0:Int)≤2∧2≤(x1.length:Int)∧(x1.length:Int)≤(x1.length:Int) then Jeq (List.drop 2 x1,16) else none else if(ltI 1 (x1.length:Int))=true then if 0<x1.length then Jgf x1 (eqI ((x1.getD 0 0).toNat:Int) 48) else none else Jgf x1 false
noncomputable def Jcd(x1:List UInt8):Bool→Option ((List UInt8) ⊕ (Int×Bool))
 | x2=>if x2=true then if(0:Int)≤0∧0≤(IntKind.i64.wrap ((x1.length:Int)-1))∧(IntKind.i64.wrap ((x1.length:Int)-1))≤(x1.length:Int) then some (.inl (List.take ((IntKind.i64.wrap ((x1.length:Int)-1)).toNat) x1)) else none else inrO (if(ltI 2 (x1.length:Int))=true then if(0:Int)≤0∧0≤2∧2≤(x1.length:Int) then if(eqS (List.take 2 x1) [48,120])=true then Jeu x1 true else if(0:Int)≤0∧0≤2∧2≤(x1.length:Int) then Jeu x1 (eqS (List.take 2 x1) [48,88]) else none else none else Jeu x1 false)
noncomputable def Jii:(List UInt8)→Option ((List UInt8) ⊕ (Int×Bool))
 | x1=>if(ltI 1 (x1.length:Int))=true then if(0:Int)≤(IntKind.i64.wrap ((x1.length:Int)-1))∧(IntKind.i64.wrap ((x1.length:Int)-1)).toNat<x1.length then if(eqI ((x1.getD ((IntKind.i64.wrap ((x1.length:Int)-1)).toNat) 0).toNat:Int) 76)=true then Jcd x1 true else if(0:Int)≤(IntKind.i64.wrap ((x1.length:Int)-1))∧(IntKind.i64.wrap ((x1.length:Int)-1)).toNat<x1.length then if(eqI ((x1.getD ((IntKind.i64.wrap ((x1.length:Int)-1)).toNat) 0).toNat:Int) 85)=true then Jcd x1 true else if(0:Int)≤(IntKind.i64.wrap ((x1.length:Int)-1))∧(IntKind.i64.wrap ((x1.length:Int)-1)).toNat<x1.length then if(eqI ((x1.getD ((IntKind.i64.wrap ((x1.length:Int)-1)).toNat) 0).toNat:Int) 108)=true then Jcd x1 true else if(0:Int)≤(IntKind.i64.wrap ((x1.length:Int)-1))∧(IntKind.i64.wrap ((x1.length:Int)-1)).toNat<x1.length then Jcd x1 (eqI ((x1.getD ((IntKind.i64.wrap ((x1.length:Int)-1)).toNat) 0).toNat:Int) 117) else none else none else none else none else Jcd x1 false
noncomputable def Jjp(a0:List UInt8):Option (Int×Bool) :=
 Jy Jii a0
noncomputable def Jh8:PF:=PF.of (E1 dS) (fun a=>Jjp a) (T2 dI dB)
theorem Jv0:JE Tryz.prog 167 Jh8:=by
 refine xF mixed [(180,Jbr)] [] ⟨⟨JAK,Jkf⟩,trivial⟩ trivial Tryz.func167 ?_
 rintro a0 out H
 have G:=True.intro
 have Y:=xZ y_9 <| xZ JD3 <| Tryz.results167
 simp only[Jjp]at H
 refine xS ?_
 refine xr ?_
 refine JZ Jii (fun s=>[(0,cS s)]) (fun s=>[]) [] H (xK ⟨[],[]⟩) ?_
 rintro n1 x1 o1 H hF1
 rw[Jii]at H
 refine Vi ?_
 refine Jp (Jcd x1) (fun s=>[(0,cS x1),(41,cB s)]) (fun s=>[]) [] o1 ?_ ?_
 ·rcases xB Y G H with⟨p,H,F,G,q⟩|⟨p,H,F,G,q⟩
  ·obtain⟨g,H⟩:=Jd H
   rcases xB F G H with⟨p,H,F,G,q⟩|⟨p,H,F,G,q⟩
   ·refine xR ?_
    exact Jb H (xK ⟨[],[]⟩)
   obtain⟨g,H⟩:=Jd H
   rcases xB F G H with⟨p,H,F,G,q⟩|⟨p,H,F,G,q⟩
   ·refine xR ?_
    exact Jb H (xK ⟨[],[]⟩)
   obtain⟨g,H⟩:=Jd H
   rcases xB F G H with⟨p,H,F,G,q⟩|⟨p,H,F,G,q⟩
   ·refine xR ?_
    exact Jb H (xK ⟨[],[]⟩)
   obtain⟨g,H⟩:=Jd H
   refine xR ?_
   exact Jb H (xK ⟨[],[]⟩)
  refine xR ?_
  exact Jb H (xK ⟨[],[]⟩)
 rintro x2 H
 rw[Jcd]at H
 rcases xB Y G H with⟨p,H,F,G,q⟩|⟨p,H,F,G,q⟩
 ·refine xT ?_
  obtain⟨g,H⟩:=Jd H
  refine xr ?_
  exact JA (JF H hF1) (xK ⟨[],[]⟩)
 replace H:=Js H hF1
 refine xE ?_
 refine xr0 ?_
 refine Jm ?_
 refine Jp Jeq (fun s=>[(0,cS s.1),(4,cI s.2)]) (fun s=>[]) [] out ?_ ?_
 ·refine Ja3 ?_
  refine Jp (Jeu x1) (fun s=>[(0,cS x1),(4,cI 10),(47,cB s)]) (fun s=>[]) [] out ?_ ?_
  ·rcases xB Y G H with⟨p,H,F,G,q⟩|⟨p,H,F,G,q⟩
   ·obtain⟨g,H⟩:=Jd H
    rcases xB F G H with⟨p,H,F,G,q⟩|⟨p,H,F,G,q⟩
    ·refine xR ?_
     exact Jb H (xK ⟨[],[]⟩)
    obtain⟨g,H⟩:=Jd H
    refine xR ?_
    exact Jb H (xK ⟨[],[]⟩)
   refine xR ?_
   exact Jb H (xK ⟨[],[]⟩)
  rintro x6 H
  rw[Jeu]at H
  rcases xB Y G H with⟨p,H,F,G,q⟩|⟨p,H,F,G,q⟩
  ·refine xT ?_
   obtain⟨g,H⟩:=Jd H
   refine xr ?_
   exact Jb H (xK ⟨[],[]⟩)
  refine xE0 ?_
  refine Jp (Jgf x1) (fun s=>[(0,cS x1),(4,cI 10),(63,cB s)]) (fun s=>[]) [] out ?_ ?_
  ·rcases xB Y G H with⟨p,H,F,G,q⟩|⟨p,H,F,G,q⟩
   ·obtain⟨g,H⟩:=Jd H
    refine xR ?_
    exact Jb H (xK ⟨[],[]⟩)
   refine xR ?_
   exact Jb H (xK ⟨[],[]⟩)
  rintro x7 H
  rw[Jgf]at H
  rcases xB Y G H with⟨p,H,F,G,q⟩|⟨p,H,F,G,q⟩
  ·refine xT ?_
   obtain⟨g,H⟩:=Jd H
   refine xr ?_
   exact Jb H (xK ⟨[],[]⟩)
  refine xE ?_
  exact Jb H (xK ⟨[],[]⟩)
 rintro ⟨x3,x4⟩ H
 rw[Jeq]at H
 refine xS ?_
 obtain⟨r1,hr1,H⟩:=Jj H
 have F:=xC Y (Jkr x3 x4 64 r1 hr1)
 refine xR0 ?_
 refine Jm ?_
 refine Vi ?_
 refine Jp (Jey r1) (fun s=>[(5,cI r1.1),(91,cB s)]) (fun s=>[]) [] out ?_ ?_
 ·rcases xB Y G H with⟨p,H,F,G,q⟩|⟨p,H,F,G,q⟩
  ·refine xR ?_
   exact Jb H (xK ⟨[],[]⟩)
  obtain⟨g,H⟩:=Jd H
  rcases xB F G H with⟨p,H,F,G,q⟩|⟨p,H,F,G,q⟩
  ·refine xR ?_
   exact Jb H (xK ⟨[],[]⟩)
  obtain⟨g,H⟩:=Jd H
  refine xR ?_
  exact Jb H (xK ⟨[],[]⟩)
 rintro x5 H
 rw[Jey]at H
 rcases xB Y G H with⟨p,H,F,G,q⟩|⟨p,H,F,G,q⟩
 ·refine xT ?_
  replace H:=oI H
  refine xr ?_
  subst H
  exact xN
 refine xE ?_
 replace H:=oI H
 refine xr ?_
 subst H
 exact xN
theorem Jyi(a0:List UInt8)(r:Int×Bool)(H:Jjp a0=some r):PC Jh8 [dS a0] (T2 dI dB r):=PF.c (a:=a0) H
noncomputable def Jbo(a0:List Token)(a1:Int):Bool→Option (List UInt8)
 | x1=>if x1=true then if(0:Int)≤a1∧a1.toNat<a0.length then some ((a0.getD a1.toNat default).Text) else none else some []
noncomputable def JcX(a0:List Token)(a1 a2 a3:Int):Option (List UInt8) :=
 if(ltI a1 (a0.length:Int))=true then if(0:Int)≤a1∧a1.toNat<a0.length then Jbo a0 a1 (eqI ((a0.getD a1.toNat default).Kind) 5) else none else Jbo a0 a1 false
def ZD(a0:List Token)(a1 a2 a3:Int)(r:(List UInt8)):GI :=
 ⟨[.c (.pt 1 0)],[[.d (.sl 11 (List.map Ja a0)),kI a1,kI a2,kI a3]],[],.ret (cS r) [[.d (.sl 11 (List.map Ja a0)),kI a1,kI a2,kI a3]] []⟩
def ZM:GI→Prop:=Sg4 JcX ZD
theorem Jkd:∀ g,ZM g→Jn Tryz.prog 148 g:=by
 rintro _ ⟨a0,a1,a2,a3,r,H,rfl⟩
 refine xGn mixed [] [] [] trivial trivial trivial Tryz.func148 _ ?_
 have G:=True.intro
 have Y:=xZ y_3 <| xZ y_9 <| xZ y_24 <| xZ y_44 <| xZ Jju <| xZ Tryz.results148 <| xZ Jl.eq_1 <| xZ Ja.eq_1 <| ZD.eq_1
 dsimp only[ZD]
 simp only[JcX]at H
 refine xS ?_
 refine xr0 ?_
 refine Jm ?_
 refine Vi ?_
 refine Jp (Jbo a0 a1) (fun s=>[(0,.c (.pt 1 0)),(26,cB s)]) (fun s=>[[.d (.sl 11 (List.map Ja a0)),kI a1,kI a2,kI a3]]) [] r ?_ ?_
 ·rcases xB Y G H with⟨p,H,F,G,q⟩|⟨p,H,F,G,q⟩
  ·obtain⟨g,H⟩:=Jd H
   have F:=xZ F (Ji Ja a0 a1.toNat default default (by omega))
   refine xR ?_
   exact Jb H (xK ⟨[1],[]⟩)
  refine xR ?_
  exact Jb H (xK ⟨[1],[]⟩)
 rintro x1 H
 rw[Jbo]at H
 rcases xB Y G H with⟨p,H,F,G,q⟩|⟨p,H,F,G,q⟩
 ·refine xT ?_
  obtain⟨g,H⟩:=Jd H
  have F:=xZ Y (Ji Ja a0 a1.toNat default default (by omega))
  replace H:=oI H
  refine xR ?_
  subst H
  refine xrD [] ?_
  exact xO ⟨[1],[]⟩
 refine xE ?_
 replace H:=oI H
 refine xr ?_
 subst H
 refine xrD [] ?_
 exact xO ⟨[1],[]⟩
theorem Jgx:Jc Tryz.prog 148∧(∀ g,ZM g→Jn Tryz.prog 148 g)∧(true=true→∀ g,ZM g→∃ val bs ts,g.out=.ret val bs ts) :=
 ⟨JA3,Jkd,fun _=>by rintro _ ⟨_,_,_,_,_,_,rfl⟩; exact⟨_,_,_,rfl⟩⟩
noncomputable def VI(a0:List UInt8)(a1:List Token)(a2 a3 a4:Int):Option (Bool×Int) :=
 (JcX a1 a2 a3 a4).bind fun r1=>if(!eqS r1 a0)=true then some (false,a2) else some (true,IntKind.i64.wrap (a2+1))
def Jao(a0:List UInt8)(a1:List Token)(a2 a3 a4:Int)(r:(Bool×Int)):GI :=
 ⟨[.c (.pt 1 0),cS a0],[[.d (.sl 11 (List.map Ja a1)),kI a2,kI a3,kI a4]],[],.ret (cB r.1) [[.d (.sl 11 (List.map Ja a1)),kI r.2,kI a3,kI a4]] []⟩
def Jaj:GI→Prop:=Sg5 VI Jao
theorem Jle:∀ g,Jaj g→Jn Tryz.prog 128 g:=by
 rintro _ ⟨a0,a1,a2,a3,a4,r,H,rfl⟩
 refine xGn mixed [] [(148,true,ZM)] [] trivial ⟨Jgx,trivial⟩ trivial Tryz.func128 _ ?_
 have G:=True.intro
 have Y:=xZ y_3 <| xZ Jju <| xZ Tryz.results128 <| xZ Jl.eq_1 <| xZ Ja.eq_1 <| xZ ZD.eq_1 <| Jao.eq_1
 dsimp only[Jao]
 simp only[VI]at H
 refine xS ?_
 refine xr ?_
 obtain⟨r1,hr1,H⟩:=Jj H
 have F:=Y
 refine xQ ?_
 refine xs 1 ?_
 refine xc ⟨[1],[]⟩ (tabG 0 (cg4 hr1)) ?_
 refine xs 2 ?_
 refine xl ?_
 refine xS ?_
 rcases xB Y G H with⟨p,H,F,G,q⟩|⟨p,H,F,G,q⟩
 ·refine xT ?_
  replace H:=oI H
  refine xr ?_
  subst H
  refine xrD [] ?_
  exact xO ⟨[1],[]⟩
 refine xE ?_
 refine xr ?_
 replace H:=oI H
 refine xr ?_
 subst H
 refine xrD [] ?_
 exact xO ⟨[1],[]⟩
theorem JgP:Jc Tryz.prog 128∧(∀ g,Jaj g→Jn Tryz.prog 128 g)∧(true=true→∀ g,Jaj g→∃ val bs ts,g.out=.ret val bs ts) :=
 ⟨JAG,Jle,fun _=>by rintro _ ⟨_,_,_,_,_,_,_,rfl⟩; exact⟨_,_,_,rfl⟩⟩
noncomputable def ZB(a0:List Token)(a1 a2 a3:Int):Option Int :=
 some (IntKind.i64.wrap (a2-1))
def Xk(a0:List Token)(a1 a2 a3 r:Int)(u:Option Value):DI :=
 ⟨[.c (.pt 1 0)],[[.pt 2 0],[.d (.sl 11 (List.map Ja a0)),kI a1,kI a2,kI a3]],[],u,[[.pt 2 0],[.d (.sl 11 (List.map Ja a0)),kI a1,kI r,kI a3]],[],u⟩
def Jcz:DI→Prop:=fun d=>∃ (a0:List Token) (a1 a2 a3 r:Int) (u:Option Value),ZB a0 a1 a2 a3=some r∧d=Xk a0 a1 a2 a3 r u
theorem Je4(a0:List Token)(a1 a2 a3 r:Int)(u:Option Value)(H:ZB a0 a1 a2 a3=some r):Jcz (Xk a0 a1 a2 a3 r u):=⟨a0,a1,a2,a3,r,u,H,rfl⟩
theorem Jid:∀ d,Jcz d→DOk Tryz.prog 166 d:=by
 rintro _ ⟨a0,a1,a2,a3,r,u,H,rfl⟩
 refine xDf mixed [] [] trivial trivial Tryz.func166 _ ?_
 have G:=True.intro
 have Y:=xZ y_3 <| xZ JBS <| xZ Jju <| xZ Tryz.results166 <| xZ Jl.eq_1 <| xZ Ja.eq_1 <| Xk.eq_1
 dsimp only[Xk]
 simp only[ZB]at H
 replace H:=oI H
 refine xr ?_
 subst H
 exact xDn ⟨[1,2],[]⟩
noncomputable def Jbu(a0:List Token)(a1 a3:Int):(Bool×Int×Int×(List UInt8)×Bool×Bool×Int×Int×Int×Int×YR×(List Call)×Int)→Option YV
 | (x1,x2,x3,x4,x5,x6,x7,x8,x9,x10,x11,x12,x13)=>if x1=true then(Jjp x4).bind fun r2=>if(eqI x3 3)=true then none else if(!r2.2)=true then none else(ZB a0 (IntKind.i64.wrap (a1+1)) x2 a3).bind fun r3=>some (r2.1,(IntKind.i64.wrap (a1+1)),r3) else(VI [40] a0 a1 x2 a3).bind fun r4=>if r4.1=true then none else(VI [45] a0 r4.2 x2 a3).bind fun r5=>if r5.1=true then none else(VI [43] a0 r5.2 x2 a3).bind fun r6=>if r6.1=true then none else(VI [126] a0 r6.2 x2 a3).bind fun r7=>if r7.1=true then none else(VI [33] a0 r7.2 x2 a3).bind fun r8=>if r8.1=true then none else none
noncomputable def JeT(a0:List Token)(a1 a2 a3:Int):Option YV :=
 if(eqI a2 30)=true then none else if(eqI a1 (a0.length:Int))=true then none else if(0:Int)≤a1∧a1.toNat<a0.length then if(eqI ((a0.getD a1.toNat default).Kind) 1)=true then(ZB a0 (IntKind.i64.wrap (a1+1)) (IntKind.i64.wrap (a2+1)) a3).bind fun r1=>some (0,(IntKind.i64.wrap (a1+1)),r1) else if(eqI ((a0.getD a1.toNat default).Kind) 2)=true then Jbu a0 a1 a3 (true,IntKind.i64.wrap (a2+1),(a0.getD a1.toNat default).Kind,(a0.getD a1.toNat default).Text,(a0.getD a1.toNat default).Space,(a0.getD a1.toNat default).First,(a0.getD a1.toNat default).File,(a0.getD a1.toNat default).At,(a0.getD a1.toNat default).End,(a0.getD a1.toNat default).Line,(a0.getD a1.toNat default).Hide,(a0.getD a1.toNat default).Calls,(a0.getD a1.toNat default).Made) else Jbu a0 a1 a3 (eqI ((a0.getD a1.toNat default).Kind) 3,IntKind.i64.wrap (a2+1),(a0.getD a1.toNat default).Kind,(a0.getD a1.toNat default).Text,(a0.getD a1.toNat default).Space,(a0.getD a1.toNat default).First,(a0.getD a1.toNat default).File,(a0.getD a1.toNat default).At,(a0.getD a1.toNat default).End,(a0.getD a1.toNat default).Line,(a0.getD a1.toNat default).Hide,(a0.getD a1.toNat default).Calls,(a0.getD a1.toNat default).Made) else none
def Jb0(a0:List Token)(a1 a2 a3:Int)(r:YV):GI :=
 ⟨[.c (.pt 1 0)],[[.d (.sl 11 (List.map Ja a0)),kI a1,kI a2,kI a3]],[],.ret (cI r.1) [[.d (.sl 11 (List.map Ja a0)),kI r.2.1,kI r.2.2,kI a3]] []⟩
def JbV:GI→Prop:=Sg4 JeT Jb0
theorem Jkg:∀ g,JbV g→Jn Tryz.prog 147 g:=by
 rintro _ ⟨a0,a1,a2,a3,r,H,rfl⟩
 refine xGn mixed [(167,Jh8)] [(128,true,Jaj)] [(166,Jcz)] ⟨⟨JBo,Jv0⟩,trivial⟩ ⟨JgP,trivial⟩ ⟨⟨JAf,Jid⟩,trivial⟩ Tryz.func147 _ ?_
 have G:=True.intro
 have Y:=xZ y_3 <| xZ y_9 <| xZ y_24 <| xZ y_44 <| xZ JBS <| xZ Jju <| xZ Tryz.results147 <| xZ Jl.eq_1 <| xZ Ja.eq_1 <| xZ Jao.eq_1 <| xZ Xk.eq_1 <| Jb0.eq_1
 dsimp only[Jb0]
 simp only[JeT]at H
 refine xS ?_
 refine xr ?_
 refine xr ?_
 rcases xB Y G H with⟨p,H,F,G,q⟩|⟨p,H,F,G,q⟩
 ·refine xT ?_
  cases H
 refine xE ?_
 refine xr ?_
 have F:=Y
 refine xQ ?_
 refine xs 1 ?_
 refine xw ?_
 refine xl ?_
 refine xS ?_
 refine xr ?_
 rcases xB Y G H with⟨p,H,F,G,q⟩|⟨p,H,F,G,q⟩
 ·refine xT ?_
  cases H
 refine xE ?_
 obtain⟨g,H⟩:=Jd H
 have F:=xZ Y (Ji Ja a0 a1.toNat default default (by omega))
 refine xR ?_
 refine xr ?_
 rcases xB Y G H with⟨p,H,F,G,q⟩|⟨p,H,F,G,q⟩
 ·refine xT ?_
  refine xr ?_
  refine xr ?_
  refine xrD [(166,[.pt 2 0])] ?_
  obtain⟨r1,hr1,H⟩:=Jj H
  refine xD ⟨[2,1],[]⟩ (tabD 0 (Je4 a0 (IntKind.i64.wrap (a1+1)) (IntKind.i64.wrap (a2+1)) a3 r1 none hr1)) ?_
  replace H:=oI H
  subst H
  exact xO ⟨[1],[]⟩
 refine xE0 ?_
 refine Jp (Jbu a0 a1 a3) (fun s=>[(1,.c (.pt 2 0)),(3,.c (.pt 3 0)),(55,cB s.1),(1000000,.df [(166,[.pt 2 0])])]) (fun s=>[[.d (.sl 11 (List.map Ja a0)),kI a1,kI s.2.1,kI a3],[.pt 1 0],[kI s.2.2.1,kS s.2.2.2.1,kB s.2.2.2.2.1,kB s.2.2.2.2.2.1,kI s.2.2.2.2.2.2.1,kI s.2.2.2.2.2.2.2.1,kI s.2.2.2.2.2.2.2.2.1,kI s.2.2.2.2.2.2.2.2.2.1,.d (.sl 1 (List.map dS s.2.2.2.2.2.2.2.2.2.2.1)),.d (.sl 3 (List.map Jl s.2.2.2.2.2.2.2.2.2.2.2.1)),kI s.2.2.2.2.2.2.2.2.2.2.2.2]]) [] r ?_ ?_
 ·rcases xB Y G H with⟨p,H,F,G,q⟩|⟨p,H,F,G,q⟩
  ·refine xR ?_
   exact Jb H (xK ⟨[1,2,3],[]⟩)
  refine xR ?_
  exact Jb H (xK ⟨[1,2,3],[]⟩)
 rintro ⟨x1,x2,x3,x4,x5,x6,x7,x8,x9,x10,x11,x12,x13⟩ H
 rw[Jbu]at H
 rcases xB Y G H with⟨p,H,F,G,q⟩|⟨p,H,F,G,q⟩
 ·refine xT ?_
  obtain⟨r2,hr2,H⟩:=Jj H
  have F:=xC Y (Jyi x4 r2 hr2)
  refine xR ?_
  refine xr ?_
  rcases xB Y G H with⟨p,H,F,G,q⟩|⟨p,H,F,G,q⟩
  ·refine xT ?_
   cases H
  refine xE ?_
  refine xr ?_
  rcases xB Y G H with⟨p,H,F,G,q⟩|⟨p,H,F,G,q⟩
  ·refine xT ?_
   cases H
  refine xE ?_
  refine xr ?_
  refine xr ?_
  refine xrD [(166,[.pt 2 0])] ?_
  obtain⟨r3,hr3,H⟩:=Jj H
  refine xD ⟨[2,1],[]⟩ (tabD 0 (Je4 a0 (IntKind.i64.wrap (a1+1)) x2 a3 r3 none hr3)) ?_
  replace H:=oI H
  subst H
  exact xO ⟨[1],[]⟩
 refine xE ?_
 obtain⟨r4,hr4,H⟩:=Jj H
 have F:=Y
 refine xQ ?_
 refine xs 1 ?_
 refine xc ⟨[1],[]⟩ (tabG 0 (cg5 hr4)) ?_
 refine xs 1 ?_
 refine xl ?_
 refine xS ?_
 rcases xB Y G H with⟨p,H,F,G,q⟩|⟨p,H,F,G,q⟩
 ·refine xT ?_
  cases H
 refine xE ?_
 obtain⟨r5,hr5,H⟩:=Jj H
 have F:=Y
 refine xQ ?_
 refine xs 1 ?_
 refine xc ⟨[1],[]⟩ (tabG 0 (cg5 hr5)) ?_
 refine xs 1 ?_
 refine xl ?_
 refine xS ?_
 rcases xB Y G H with⟨p,H,F,G,q⟩|⟨p,H,F,G,q⟩
 ·refine xT ?_
  cases H
 refine xE ?_
 obtain⟨r6,hr6,H⟩:=Jj H
 have F:=Y
 refine xQ ?_
 refine xs 1 ?_
 refine xc ⟨[1],[]⟩ (tabG 0 (cg5 hr6)) ?_
 refine xs 1 ?_
 refine xl ?_
 refine xS ?_
 rcases xB Y G H with⟨p,H,F,G,q⟩|⟨p,H,F,G,q⟩
 ·refine xT ?_
  cases H
 refine xE ?_
 obtain⟨r7,hr7,H⟩:=Jj H
 have F:=Y
 refine xQ ?_
 refine xs 1 ?_
 refine xc ⟨[1],[]⟩ (tabG 0 (cg5 hr7)) ?_
 refine xs 1 ?_
 refine xl ?_
 refine xS ?_
 rcases xB Y G H with⟨p,H,F,G,q⟩|⟨p,H,F,G,q⟩
 ·refine xT ?_
  cases H
 refine xE ?_
 obtain⟨r8,hr8,H⟩:=Jj H
 have F:=Y
 refine xQ ?_
 refine xs 1 ?_
 refine xc ⟨[1],[]⟩ (tabG 0 (cg5 hr8)) ?_
 refine xs 1 ?_
 refine xl ?_
 refine xS ?_
 rcases xB Y G H with⟨p,H,F,G,q⟩|⟨p,H,F,G,q⟩
 ·refine xT ?_
  cases H
 refine xE ?_
 cases H
theorem Jla:Jc Tryz.prog 147∧(∀ g,JbV g→Jn Tryz.prog 147 g)∧(true=true→∀ g,JbV g→∃ val bs ts,g.out=.ret val bs ts) :=
 ⟨JAz,Jkg,fun _=>by rintro _ ⟨_,_,_,_,_,_,rfl⟩; exact⟨_,_,_,rfl⟩⟩
noncomputable def Jde:Bool→Option Int
 | x5=>if x5=true then some 10 else some 0
noncomputable def JeC(a0:List UInt8):Bool→Option Int
 | x4=>if x4=true then some 9 else if(eqS a0 [42])=true then Jde true else if(eqS a0 [47])=true then Jde true else Jde (eqS a0 [37])
noncomputable def JeN(a0:List UInt8):Bool→Option Int
 | x3=>if x3=true then some 8 else if(eqS a0 [43])=true then JeC a0 true else JeC a0 (eqS a0 [45])
noncomputable def JbG(a0:List UInt8):Bool→Option Int
 | x2=>if x2=true then some 7 else if(eqS a0 [60,60])=true then JeN a0 true else JeN a0 (eqS a0 [62,62])
noncomputable def JeG(a0:List UInt8):Bool→Option Int
 | x1=>if x1=true then some 6 else if(eqS a0 [60])=true then JbG a0 true else if(eqS a0 [62])=true then JbG a0 true else if(eqS a0 [60,61])=true then JbG a0 true else JbG a0 (eqS a0 [62,61])
noncomputable def JgV(a0:List UInt8):Option Int :=
 if(eqS a0 [124,124])=true then some 1 else if(eqS a0 [38,38])=true then some 2 else if(eqS a0 [124])=true then some 3 else if(eqS a0 [94])=true then some 4 else if(eqS a0 [38])=true then some 5 else if(eqS a0 [61,61])=true then JeG a0 true else JeG a0 (eqS a0 [33,61])
noncomputable def JgK:PF:=PF.of (E1 dS) (fun a=>JgV a) dI
theorem Js3:JE Tryz.prog 149 JgK:=by
 refine xF mixed [] [] trivial trivial Tryz.func149 ?_
 rintro a0 out H
 have G:=True.intro
 have Y:=Tryz.results149
 simp only[JgV]at H
 refine xS ?_
 refine xr ?_
 refine xr ?_
 refine xr ?_
 rcases xB Y G H with⟨p,H,F,G,q⟩|⟨p,H,F,G,q⟩
 ·refine xT ?_
  replace H:=oI H
  refine xr ?_
  subst H
  exact xN
 refine xE ?_
 refine xr ?_
 rcases xB Y G H with⟨p,H,F,G,q⟩|⟨p,H,F,G,q⟩
 ·refine xT ?_
  replace H:=oI H
  refine xr ?_
  subst H
  exact xN
 refine xE ?_
 refine xr ?_
 rcases xB Y G H with⟨p,H,F,G,q⟩|⟨p,H,F,G,q⟩
 ·refine xT ?_
  replace H:=oI H
  refine xr ?_
  subst H
  exact xN
 refine xE ?_
 refine xr ?_
 rcases xB Y G H with⟨p,H,F,G,q⟩|⟨p,H,F,G,q⟩
 ·refine xT ?_
  replace H:=oI H
  refine xr ?_
  subst H
  exact xN
 refine xE ?_
 refine xr ?_
 rcases xB Y G H with⟨p,H,F,G,q⟩|⟨p,H,F,G,q⟩
 ·refine xT ?_
  replace H:=oI H
  refine xr ?_
  subst H
  exact xN
 refine xE0 ?_
 refine Jp (JeG a0) (fun s=>[(3,cS a0),(14,cB s)]) (fun s=>[]) [] out ?_ ?_
 ·refine xS ?_
  refine xr ?_
  rcases xB Y G H with⟨p,H,F,G,q⟩|⟨p,H,F,G,q⟩
  ·refine xT ?_
   exact Jb H (xK ⟨[],[]⟩)
  refine xE ?_
  refine xr ?_
  exact Jb H (xK ⟨[],[]⟩)
 rintro x1 H
 rw[JeG]at H
 rcases xB Y G H with⟨p,H,F,G,q⟩|⟨p,H,F,G,q⟩
 ·refine xT ?_
  replace H:=oI H
  refine xr ?_
  subst H
  exact xN
 refine xE0 ?_
 refine Jp (JbG a0) (fun s=>[(3,cS a0),(17,cB s)]) (fun s=>[]) [] out ?_ ?_
 ·refine xS ?_
  refine xr ?_
  rcases xB Y G H with⟨p,H,F,G,q⟩|⟨p,H,F,G,q⟩
  ·refine xT ?_
   exact Jb H (xK ⟨[],[]⟩)
  refine xE ?_
  refine xr ?_
  rcases xB Y G H with⟨p,H,F,G,q⟩|⟨p,H,F,G,q⟩
  ·refine xT ?_
   exact Jb H (xK ⟨[],[]⟩)
  refine xE ?_
  refine xr ?_
  rcases xB Y G H with⟨p,H,F,G,q⟩|⟨p,H,F,G,q⟩
  ·refine xT ?_
   exact Jb H (xK ⟨[],[]⟩)
  refine xE ?_
  refine xr ?_
  exact Jb H (xK ⟨[],[]⟩)
 rintro x2 H
 rw[JbG]at H
 rcases xB Y G H with⟨p,H,F,G,q⟩|⟨p,H,F,G,q⟩
 ·refine xT ?_
  replace H:=oI H
  refine xr ?_
  subst H
  exact xN
 refine xE0 ?_
 refine Jp (JeN a0) (fun s=>[(3,cS a0),(22,cB s)]) (fun s=>[]) [] out ?_ ?_
 ·refine xS ?_
  refine xr ?_
  rcases xB Y G H with⟨p,H,F,G,q⟩|⟨p,H,F,G,q⟩
  ·refine xT ?_
   exact Jb H (xK ⟨[],[]⟩)
  refine xE ?_
  refine xr ?_
  exact Jb H (xK ⟨[],[]⟩)
 rintro x3 H
 rw[JeN]at H
 rcases xB Y G H with⟨p,H,F,G,q⟩|⟨p,H,F,G,q⟩
 ·refine xT ?_
  replace H:=oI H
  refine xr ?_
  subst H
  exact xN
 refine xE0 ?_
 refine Jp (JeC a0) (fun s=>[(3,cS a0),(25,cB s)]) (fun s=>[]) [] out ?_ ?_
 ·refine xS ?_
  refine xr ?_
  rcases xB Y G H with⟨p,H,F,G,q⟩|⟨p,H,F,G,q⟩
  ·refine xT ?_
   exact Jb H (xK ⟨[],[]⟩)
  refine xE ?_
  refine xr ?_
  exact Jb H (xK ⟨[],[]⟩)
 rintro x4 H
 rw[JeC]at H
 rcases xB Y G H with⟨p,H,F,G,q⟩|⟨p,H,F,G,q⟩
 ·refine xT ?_
  replace H:=oI H
  refine xr ?_
  subst H
  exact xN
 refine xE0 ?_
 refine Jp Jde (fun s=>[(28,cB s)]) (fun s=>[]) [] out ?_ ?_
 ·refine xS ?_
  refine xr ?_
  rcases xB Y G H with⟨p,H,F,G,q⟩|⟨p,H,F,G,q⟩
  ·refine xT ?_
   exact Jb H (xK ⟨[],[]⟩)
  refine xE ?_
  refine xr ?_
  rcases xB Y G H with⟨p,H,F,G,q⟩|⟨p,H,F,G,q⟩
  ·refine xT ?_
   exact Jb H (xK ⟨[],[]⟩)
  refine xE ?_
  refine xr ?_
  exact Jb H (xK ⟨[],[]⟩)
 rintro x5 H
 rw[Jde]at H
 rcases xB Y G H with⟨p,H,F,G,q⟩|⟨p,H,F,G,q⟩
 ·refine xT ?_
  replace H:=oI H
  refine xr ?_
  subst H
  exact xN
 refine xE ?_
 replace H:=oI H
 refine xr ?_
 subst H
 exact xN
theorem JvH(a0:List UInt8)(r:Int)(H:JgV a0=some r):PC JgK [dS a0] (dI r):=PF.c (a:=a0) H
noncomputable def Z7:(Bool×Int)→Option YG
 | (x4,x5)=>none
noncomputable def KR(a4:Int):(Bool×Int)→Option YG
 | (x2,x3)=>if x2=true then Z7 (true,IntKind.i64.wrap (a4+1)) else Z7 (false,a4)
noncomputable def Z3(a4:Int)(r1:YV)(r2:(List UInt8)):Bool→Option YG
 | x1=>if x1=true then inrO (some (r1.1,r1.2.1,r1.2.2)) else if(eqS r2 [38,38])=true then if(eqI r1.1 0)=true then KR a4 (true,IntKind.i64.wrap (r1.2.1+1)) else if(eqS r2 [124,124])=true then KR a4 (true,IntKind.i64.wrap (r1.2.1+1)) else KR a4 (false,IntKind.i64.wrap (r1.2.1+1)) else if(eqS r2 [124,124])=true then KR a4 (!eqI r1.1 0,IntKind.i64.wrap (r1.2.1+1)) else KR a4 (false,IntKind.i64.wrap (r1.2.1+1))
noncomputable def JcA(a0:Int)(a1:List Token)(a4:Int)(r1:YV):Unit→Option YG
 | ()=>(JcX a1 r1.2.1 r1.2.2 a4).bind fun r2=>(JgV r2).bind fun r3=>if(eqI r3 0)=true then Z3 a4 r1 r2 true else Z3 a4 r1 r2 (ltI r3 a0)
noncomputable def JdI(a0:Int)(a1:List Token)(a2 a3 a4:Int):Option YV :=
 (JeT a1 a2 a3 a4).bind fun r1=>Jy (JcA a0 a1 a4 r1) ()
def JaB(a0:Int)(a1:List Token)(a2 a3 a4:Int)(r:YV):GI :=
 ⟨[.c (.pt 1 0),cI a0],[[.d (.sl 11 (List.map Ja a1)),kI a2,kI a3,kI a4]],[],.ret (cI r.1) [[.d (.sl 11 (List.map Ja a1)),kI r.2.1,kI r.2.2,kI a4]] []⟩
def Jaz:GI→Prop:=Sg5 JdI JaB
theorem JiO:∀ g,Jaz g→Jn Tryz.prog 127 g:=by
 rintro _ ⟨a0,a1,a2,a3,a4,r,H,rfl⟩
 refine xGn mixed [(149,JgK)] [(147,true,JbV),(148,true,ZM)] [] ⟨⟨JAM,Js3⟩,trivial⟩ ⟨Jla,Jgx,trivial⟩ trivial Tryz.func127 _ ?_
 have G:=True.intro
 have Y:=xZ y_3 <| xZ Jju <| xZ Tryz.results127 <| xZ Jl.eq_1 <| xZ Ja.eq_1 <| xZ Jb0.eq_1 <| xZ ZD.eq_1 <| JaB.eq_1
 dsimp only[JaB]
 simp only[JdI]at H
 refine xS ?_
 refine xr ?_
 obtain⟨r1,hr1,H⟩:=Jj H
 have F:=Y
 refine xQ ?_
 refine xs 1 ?_
 refine xc ⟨[1],[]⟩ (tabG 0 (cg4 hr1)) ?_
 refine xs 1 ?_
 refine xl ?_
 refine xS ?_
 refine JZ (JcA a0 a1 a4 r1) (fun s=>[(0,.c (.pt 1 0)),(1,cI a0),(5,cI r1.1)]) (fun s=>[[.d (.sl 11 (List.map Ja a1)),kI r1.2.1,kI r1.2.2,kI a4]]) [] H (xK ⟨[1],[]⟩) ?_
 rintro n1 ⟨⟩ o1 H hF1
 rw[JcA]at H
 refine xS ?_
 obtain⟨r2,hr2,H⟩:=Jj H
 have F:=Y
 refine xQ ?_
 refine xs 1 ?_
 refine xc ⟨[1],[]⟩ (tabG 1 (cg4 hr2)) ?_
 refine xs 1 ?_
 refine xl ?_
 refine xS ?_
 obtain⟨r3,hr3,H⟩:=Jj H
 have F:=xC Y (JvH r2 r3 hr3)
 refine xR0 ?_
 refine Jm ?_
 refine Vi ?_
 refine Jp (Z3 a4 r1 r2) (fun s=>[(0,.c (.pt 1 0)),(1,cI a0),(5,cI r1.1),(6,cS r2),(7,cI r3),(23,cB s)]) (fun s=>[[.d (.sl 11 (List.map Ja a1)),kI r1.2.1,kI r1.2.2,kI a4]]) [] o1 ?_ ?_
 ·rcases xB Y G H with⟨p,H,F,G,q⟩|⟨p,H,F,G,q⟩
  ·refine xR ?_
   exact Jb H (xK ⟨[1],[]⟩)
  refine xR ?_
  exact Jb H (xK ⟨[1],[]⟩)
 rintro x1 H
 rw[Z3]at H
 rcases xB Y G H with⟨p,H,F,G,q⟩|⟨p,H,F,G,q⟩
 ·refine xT ?_
  replace H:=Js H hF1
  replace H:=oI H
  refine xr ?_
  subst H
  refine xrD [] ?_
  exact xO ⟨[1],[]⟩
 refine xE ?_
 refine xr ?_
 refine xr0 ?_
 refine Jm ?_
 refine Jp (KR a4) (fun s=>[(0,.c (.pt 1 0)),(1,cI a0),(5,cI r1.1),(6,cS r2),(7,cI r3),(8,cI r1.2.1),(9,cB s.1)]) (fun s=>[[.d (.sl 11 (List.map Ja a1)),kI s.2,kI r1.2.2,kI a4]]) [] o1 ?_ ?_
 ·rcases xB Y G H with⟨p,H,F,G,q⟩|⟨p,H,F,G,q⟩
  ·rcases xB F G H with⟨p,H,F,G,q⟩|⟨p,H,F,G,q⟩
   ·refine xR ?_
    exact Jb H (xK ⟨[1],[]⟩)
   rcases xB F G H with⟨p,H,F,G,q⟩|⟨p,H,F,G,q⟩
   ·refine xR ?_
    exact Jb H (xK ⟨[1],[]⟩)
   refine xR ?_
   exact Jb H (xK ⟨[1],[]⟩)
  rcases xB F G H with⟨p,H,F,G,q⟩|⟨p,H,F,G,q⟩
  ·refine xR ?_
   exact Jb H (xK ⟨[1],[]⟩)
  refine xR ?_
  exact Jb H (xK ⟨[1],[]⟩)
 rintro ⟨x2,x3⟩ H
 rw[KR]at H
 refine Jp Z7 (fun s=>[(0,.c (.pt 1 0)),(1,cI a0),(5,cI r1.1),(6,cS r2),(7,cI r3),(8,cI r1.2.1),(9,cB s.1)]) (fun s=>[[.d (.sl 11 (List.map Ja a1)),kI x3,kI r1.2.2,kI s.2]]) [] o1 ?_ ?_
 ·refine xS ?_
  refine xr ?_
  rcases xB Y G H with⟨p,H,F,G,q⟩|⟨p,H,F,G,q⟩
  ·refine xT ?_
   refine xr ?_
   exact Jb H (xK ⟨[1],[]⟩)
  refine xE ?_
  exact Jb H (xK ⟨[1],[]⟩)
 rintro ⟨x4,x5⟩ H
 rw[Z7]at H
 refine xS ?_
 cases H
theorem Jjw:Jc Tryz.prog 127∧(∀ g,Jaz g→Jn Tryz.prog 127 g)∧(true=true→∀ g,Jaz g→∃ val bs ts,g.out=.ret val bs ts) :=
 ⟨JBz,JiO,fun _=>by rintro _ ⟨_,_,_,_,_,_,_,rfl⟩; exact⟨_,_,_,rfl⟩⟩
noncomputable def ZZ:(Bool×Int)→Option YG
 | (x1,x2)=>none
noncomputable def Jcv(a3:Int)(r1:YV):Unit→Option YG
 | ()=>if(eqB (!eqI r1.1 0) (eqI 0 1))=true then ZZ (true,IntKind.i64.wrap (a3+1)) else ZZ (false,a3)
noncomputable def JdR(a0:List Token)(a1 a2 a3:Int):Option YV :=
 (JdI 1 a0 a1 a2 a3).bind fun r1=>(VI [63] a0 r1.2.1 r1.2.2 a3).bind fun r2=>if(!r2.1)=true then some (r1.1,r2.2,r1.2.2) else Jy (Jcv a3 r1) ()
def JaL(a0:List Token)(a1 a2 a3:Int)(r:YV):GI :=
 ⟨[.c (.pt 1 0)],[[.d (.sl 11 (List.map Ja a0)),kI a1,kI a2,kI a3]],[],.ret (cI r.1) [[.d (.sl 11 (List.map Ja a0)),kI r.2.1,kI r.2.2,kI a3]] []⟩
def JaH:GI→Prop:=Sg4 JdR JaL
theorem JiH:∀ g,JaH g→Jn Tryz.prog 106 g:=by
 rintro _ ⟨a0,a1,a2,a3,r,H,rfl⟩
 refine xGn mixed [] [(127,true,Jaz),(128,true,Jaj)] [] trivial ⟨Jjw,JgP,trivial⟩ trivial Tryz.func106 _ ?_
 have G:=True.intro
 have Y:=xZ y_3 <| xZ y_4 <| xZ Jju <| xZ JD0 <| xZ Tryz.results106 <| xZ Jl.eq_1 <| xZ Ja.eq_1 <| xZ JaB.eq_1 <| xZ Jao.eq_1 <| JaL.eq_1
 dsimp only[JaL]
 simp only[JdR]at H
 refine xS ?_
 refine xr ?_
 obtain⟨r1,hr1,H⟩:=Jj H
 have F:=Y
 refine xQ ?_
 refine xs 1 ?_
 refine xc ⟨[1],[]⟩ (tabG 0 (cg5 hr1)) ?_
 refine xs 1 ?_
 refine xl ?_
 refine xS ?_
 obtain⟨r2,hr2,H⟩:=Jj H
 have F:=Y
 refine xQ ?_
 refine xs 1 ?_
 refine xc ⟨[1],[]⟩ (tabG 1 (cg5 hr2)) ?_
 refine xs 1 ?_
 refine xl ?_
 refine xS ?_
 rcases xB Y G H with⟨p,H,F,G,q⟩|⟨p,H,F,G,q⟩
 ·refine xT ?_
  replace H:=oI H
  refine xr ?_
  subst H
  refine xrD [] ?_
  exact xO ⟨[1],[]⟩
 refine xE ?_
 refine xr ?_
 refine xr ?_
 refine JZ (Jcv a3 r1) (fun s=>[(0,.c (.pt 1 0)),(3,cI r1.1),(4,.c (.pt 2 0)),(14,cI 0)]) (fun s=>[[.d (.sl 11 (List.map Ja a0)),kI r2.2,kI r1.2.2,kI a3],[kI 0,kI 0]]) [] H (xK ⟨[1,4],[]⟩) ?_
 rintro n1 ⟨⟩ o1 H hF1
 rw[Jcv]at H
 refine xS ?_
 refine xr ?_
 refine xt ?_
 refine xr ?_
 refine xr0 ?_
 refine Jm ?_
 refine Jp ZZ (fun s=>[(0,.c (.pt 1 0)),(3,cI r1.1),(4,.c (.pt 2 0)),(5,cI 0),(6,cB s.1),(14,cI 0)]) (fun s=>[[.d (.sl 11 (List.map Ja a0)),kI r2.2,kI r1.2.2,kI s.2],[kI 0,kI 0]]) [] o1 ?_ ?_
 ·refine xS ?_
  refine xr ?_
  rcases xB Y G H with⟨p,H,F,G,q⟩|⟨p,H,F,G,q⟩
  ·refine xT ?_
   refine xr ?_
   exact Jb H (xK ⟨[1,2],[]⟩)
  refine xE ?_
  exact Jb H (xK ⟨[1,2],[]⟩)
 rintro ⟨x1,x2⟩ H
 rw[ZZ]at H
 refine xS ?_
 cases H
theorem Ji7:Jc Tryz.prog 106∧(∀ g,JaH g→Jn Tryz.prog 106 g)∧(true=true→∀ g,JaH g→∃ val bs ts,g.out=.ret val bs ts) :=
 ⟨JBm,JiH,fun _=>by rintro _ ⟨_,_,_,_,_,_,rfl⟩; exact⟨_,_,_,rfl⟩⟩
noncomputable def Jgj(a0 a1 a2 a3:Int):Option Unit :=
 some ()
def Jcy(a0 a1 a2 a3:Int)(r:Unit):DI :=
 ⟨[.c (.pt 1 0),.c (.pt 2 0)],[[kI a0],[kI a1,kI a2,kI a3]],[],none,[[kI a0],[kI a1,kI a2,kI a3]],[],none⟩
def JfV:DI→Prop:=fun d=>∃ (a0 a1 a2 a3:Int) (r:Unit),Jgj a0 a1 a2 a3=some r∧d=Jcy a0 a1 a2 a3 r
theorem Jpd(a0 a1 a2 a3:Int)(r:Unit)(H:Jgj a0 a1 a2 a3=some r):JfV (Jcy a0 a1 a2 a3 r):=⟨a0,a1,a2,a3,r,H,rfl⟩
theorem Jm3:∀ d,JfV d→DOk Tryz.prog 105 d:=by
 rintro _ ⟨a0,a1,a2,a3,r,H,rfl⟩
 refine xRcl mixed [7] [] [] trivial trivial Tryz.func105 _ ?_
 have G:=True.intro
 have Y:=xZ y_3 <| xZ y_20 <| xZ y_31 <| xZ JD1 <| xZ Tryz.results105 <| Jcy.eq_1
 dsimp only[Jcy,Option.getD_some,Option.getD_none]
 unfold Jgj at H
 refine xS ?_
 refine xr ?_
 refine xt ?_
 replace H:=oI H
 refine xr ?_
 subst H
 exact xDn ⟨[1,2],[]⟩
noncomputable def JkA(a0:List Token):Option (Int×Int) :=
 (JdR a0 0 0 0).bind fun r1=>if(ltI r1.2.1 (a0.length:Int))=true then none else(Jgj r1.1 0 (-1) 0).bind fun r2=>some (r1.1,(-1))
def Jgq(a0:List Token)(r:(Int×Int)):GI :=
 ⟨[.c (.d (.sl 11 (List.map Ja a0)))],[],[],.ret (.tu [(false,[kI r.1]),(true,[kI 0,kI r.2,kI 0])]) [] []⟩
def Jgm:GI→Prop:=Sg1 JkA Jgq
theorem JtN:∀ g,Jgm g→Jn Tryz.prog 79 g:=by
 rintro _ ⟨a0,r,H,rfl⟩
 refine xGn mixed [] [(106,true,JaH)] [(105,JfV)] trivial ⟨Ji7,trivial⟩ ⟨⟨JAv,Jm3⟩,trivial⟩ Tryz.func79 _ ?_
 have G:=True.intro
 have Y:=xZ y_3 <| xZ y_24 <| xZ y_29 <| xZ y_31 <| xZ y_44 <| xZ Jju <| xZ Tryz.results79 <| xZ Jl.eq_1 <| xZ Ja.eq_1 <| xZ JaL.eq_1 <| xZ Jcy.eq_1 <| Jgq.eq_1
 dsimp only[Jgq]
 simp only[JkA]at H
 refine xS ?_
 refine xr ?_
 have F:=Y
 refine xQ ?_
 refine xs 1 ?_
 refine xw ?_
 refine xl ?_
 refine xS ?_
 refine xr ?_
 obtain⟨r1,hr1,H⟩:=Jj H
 have F:=Y
 refine xQ ?_
 refine xs 1 ?_
 refine xc ⟨[3],[]⟩ (tabG 0 (cg4 hr1)) ?_
 refine xs 1 ?_
 refine xl ?_
 refine xS ?_
 refine xr ?_
 rcases xB Y G H with⟨p,H,F,G,q⟩|⟨p,H,F,G,q⟩
 ·refine xT ?_
  cases H
 refine xE ?_
 refine xr ?_
 refine xrD [(105,[.pt 1 0,.pt 2 0])] ?_
 obtain⟨r2,hr2,H⟩:=Jj H
 refine xD ⟨[1,2],[]⟩ (tabD 0 (Jpd r1.1 0 (-1) 0 r2 hr2)) ?_
 replace H:=oI H
 subst H
 exact xO ⟨[],[]⟩
theorem Jih:Jc Tryz.prog 79∧(∀ g,Jgm g→Jn Tryz.prog 79 g)∧(true=true→∀ g,Jgm g→∃ val bs ts,g.out=.ret val bs ts) :=
 ⟨JCX,JtN,fun _=>by rintro _ ⟨_,_,_,rfl⟩; exact⟨_,_,_,rfl⟩⟩
end Go.Proofs.YtfkhlbhjhdpkoaaGreatDoor
