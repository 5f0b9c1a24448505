/- Functions of data for functions of the program. Written by dec3.py. -/
import Derived.Test.YtfkhlbhjhdpkoaaGreatDoorZqaw
import Derived.Test.YtfkhlbhjhdpkoaaGreatDoorZqbf
set_option linter.unusedVariables false
set_option linter.unusedSimpArgs false
set_option maxHeartbeats 4000000
set_option maxRecDepth 100000
namespace Go.Proofs.YtfkhlbhjhdpkoaaGreatDoor
open Go.RowKit
noncomputable def Jfi(r1:Int×Bool):Bool→Option (Int×Bool)
 | x5=>if x5=true then some (0,false) else some (r1.1,true)
noncomputable def Jfd:((List UInt8)×Int)→Option (Int×Bool)
 | (x3,x4)=>(JbB x3 x4 64).bind fun r1=>if(!r1.2)=true then Jfi r1 true else if 0<x3.length then if(eqI ((x3.getD 0 0).toNat:Int) 43)=true then Jfi r1 true else if 0<x3.length then Jfi r1 (eqI ((x3.getD 0 0).toNat:Int) 45) else none else none
noncomputable def Jhb(x1:List UInt8):Bool→Option (Int×Bool)
 | x7=>if x7=true then if(0:Int)≤1∧1≤(x1.length:Int)∧(x1.length:Int)≤(x1.length:Int) then Jfd (List.drop 1 x1,8) else none else Jfd (x1,10)
noncomputable def Jfh(x1:List UInt8):Bool→Option (Int×Bool)
 | x6=>if x6=true then if(0:Int)≤2∧2≤(x1.length:Int)∧(x1.length:Int)≤(x1.length:Int) then Jfd (List.drop 2 x1,16) else none else if(ltI 1 (x1.length:Int))=true then if 0<x1.length then Jhb x1 (eqI ((x1.getD 0 0).toNat:Int) 48) else none else Jhb x1 false
noncomputable def JcJ(x1:List UInt8):Bool→Option ((List UInt8) ⊕ (Int×Bool))
 | x2=>if x2=true then if(0:Int)≤0∧0≤(IntKind.i64.wrap ((x1.length:Int)-1))∧(IntKind.i64.wrap ((x1.length:Int)-1))≤(x1.length:Int) then some (.inl (List.take ((IntKind.i64.wrap ((x1.length:Int)-1)).toNat) x1)) else none else inrO (if(ltI 2 (x1.length:Int))=true then if(0:Int)≤0∧0≤2∧2≤(x1.length:Int) then if(eqS (List.take 2 x1) [48,120])=true then Jfh x1 true else if(0:Int)≤0∧0≤2∧2≤(x1.length:Int) then Jfh x1 (eqS (List.take 2 x1) [48,88]) else none else none else Jfh x1 false)
noncomputable def JiX:(List UInt8)→Option ((List UInt8) ⊕ (Int×Bool))
 | x1=>if(ltI 1 (x1.length:Int))=true then if(0:Int)≤(IntKind.i64.wrap ((x1.length:Int)-1))∧(IntKind.i64.wrap ((x1.length:Int)-1)).toNat<x1.length then if(eqI ((x1.getD ((IntKind.i64.wrap ((x1.length:Int)-1)).toNat) 0).toNat:Int) 76)=true then JcJ x1 true else if(0:Int)≤(IntKind.i64.wrap ((x1.length:Int)-1))∧(IntKind.i64.wrap ((x1.length:Int)-1)).toNat<x1.length then if(eqI ((x1.getD ((IntKind.i64.wrap ((x1.length:Int)-1)).toNat) 0).toNat:Int) 85)=true then JcJ x1 true else if(0:Int)≤(IntKind.i64.wrap ((x1.length:Int)-1))∧(IntKind.i64.wrap ((x1.length:Int)-1)).toNat<x1.length then if(eqI ((x1.getD ((IntKind.i64.wrap ((x1.length:Int)-1)).toNat) 0).toNat:Int) 108)=true then JcJ x1 true else if(0:Int)≤(IntKind.i64.wrap ((x1.length:Int)-1))∧(IntKind.i64.wrap ((x1.length:Int)-1)).toNat<x1.length then JcJ x1 (eqI ((x1.getD ((IntKind.i64.wrap ((x1.length:Int)-1)).toNat) 0).toNat:Int) 117) else none else none else none else none else JcJ x1 false
noncomputable def JjN(a0:List UInt8):Option (Int×Bool) :=
 Jv JiX a0
noncomputable def Ji8:PF:=PF.of (E1 dS) (fun a=>JjN a) (T2 dI dB)
theorem JwG:JB Tryz.prog 167 Ji8:=by
 refine xF mixed [(180,JbS)] [] ⟨⟨JBT,Jk8⟩,trivial⟩ trivial Tryz.func167 ?_
 rintro a0 out H
 have G:=True.intro
 have Y:=xZ y_9 <| xZ JE7 <| Tryz.results167
 simp only[JjN]at H
 refine xS ?_
 refine xr ?_
 refine JG JiX (fun s=>[(0,cS s)]) (fun s=>[]) [] H (xK ⟨[],[]⟩) ?_
 rintro n1 x1 o1 H hF1
 rw[JiX]at H
 refine Kf ?_
 refine Jn (JcJ x1) (fun s=>[(0,cS x1),(41,cB s)]) (fun s=>[]) [] o1 ?_ ?_
 ·rcases xB Y G H with⟨p,H,F,G,q⟩|⟨p,H,F,G,q⟩
  ·obtain⟨g,H⟩:=Jc H
   rcases xB F G H with⟨p,H,F,G,q⟩|⟨p,H,F,G,q⟩
   ·refine xR ?_
    exact Jb H (xK ⟨[],[]⟩)
   obtain⟨g,H⟩:=Jc H
   rcases xB F G H with⟨p,H,F,G,q⟩|⟨p,H,F,G,q⟩
   ·refine xR ?_
    exact Jb H (xK ⟨[],[]⟩)
   obtain⟨g,H⟩:=Jc H
   rcases xB F G H with⟨p,H,F,G,q⟩|⟨p,H,F,G,q⟩
   ·refine xR ?_
    exact Jb H (xK ⟨[],[]⟩)
   obtain⟨g,H⟩:=Jc H
   refine xR ?_
   exact Jb H (xK ⟨[],[]⟩)
  refine xR ?_
  exact Jb H (xK ⟨[],[]⟩)
 rintro x2 H
 rw[JcJ]at H
 rcases xB Y G H with⟨p,H,F,G,q⟩|⟨p,H,F,G,q⟩
 ·refine xT ?_
  obtain⟨g,H⟩:=Jc H
  refine xr ?_
  exact Jw (JA H hF1) (xK ⟨[],[]⟩)
 replace H:=Jq H hF1
 refine xE ?_
 refine xr0 ?_
 refine Jj ?_
 refine Jn Jfd (fun s=>[(0,cS s.1),(4,cI s.2)]) (fun s=>[]) [] out ?_ ?_
 ·refine Jag ?_
  refine Jn (Jfh x1) (fun s=>[(0,cS x1),(4,cI 10),(47,cB s)]) (fun s=>[]) [] out ?_ ?_
  ·rcases xB Y G H with⟨p,H,F,G,q⟩|⟨p,H,F,G,q⟩
   ·obtain⟨g,H⟩:=Jc H
    rcases xB F G H with⟨p,H,F,G,q⟩|⟨p,H,F,G,q⟩
    ·refine xR ?_
     exact Jb H (xK ⟨[],[]⟩)
    obtain⟨g,H⟩:=Jc H
    refine xR ?_
    exact Jb H (xK ⟨[],[]⟩)
   refine xR ?_
   exact Jb H (xK ⟨[],[]⟩)
  rintro x6 H
  rw[Jfh]at H
  rcases xB Y G H with⟨p,H,F,G,q⟩|⟨p,H,F,G,q⟩
  ·refine xT ?_
   obtain⟨g,H⟩:=Jc H
   refine xr ?_
   exact Jb H (xK ⟨[],[]⟩)
  refine xE0 ?_
  refine Jn (Jhb x1) (fun s=>[(0,cS x1),(4,cI 10),(63,cB s)]) (fun s=>[]) [] out ?_ ?_
  ·rcases xB Y G H with⟨p,H,F,G,q⟩|⟨p,H,F,G,q⟩
   ·obtain⟨g,H⟩:=Jc H
    refine xR ?_
    exact Jb H (xK ⟨[],[]⟩)
   refine xR ?_
   exact Jb H (xK ⟨[],[]⟩)
  rintro x7 H
  rw[Jhb]at H
  rcases xB Y G H with⟨p,H,F,G,q⟩|⟨p,H,F,G,q⟩
  ·refine xT ?_
   obtain⟨g,H⟩:=Jc H
   refine xr ?_
   exact Jb H (xK ⟨[],[]⟩)
  refine xE ?_
  exact Jb H (xK ⟨[],[]⟩)
 rintro ⟨x3,x4⟩ H
 rw[Jfd]at H
 refine xS ?_
 obtain⟨r1,hr1,H⟩:=Ji H
 have F:=xC Y (Jmj x3 x4 64 r1 hr1)
 refine xR0 ?_
 refine Jj ?_
 refine Kf ?_
 refine Jn (Jfi r1) (fun s=>[(5,cI r1.1),(91,cB s)]) (fun s=>[]) [] out ?_ ?_
 ·rcases xB Y G H with⟨p,H,F,G,q⟩|⟨p,H,F,G,q⟩
  ·refine xR ?_
   exact Jb H (xK ⟨[],[]⟩)
  obtain⟨g,H⟩:=Jc H
  rcases xB F G H with⟨p,H,F,G,q⟩|⟨p,H,F,G,q⟩
  ·refine xR ?_
   exact Jb H (xK ⟨[],[]⟩)
  obtain⟨g,H⟩:=Jc H
  refine xR ?_
  exact Jb H (xK ⟨[],[]⟩)
 rintro x5 H
 rw[Jfi]at H
 rcases xB Y G H with⟨p,H,F,G,q⟩|⟨p,H,F,G,q⟩
 ·refine xT ?_
  replace H:=oI H
  refine xr ?_
  subst H
  exact xN
 refine xE ?_
 replace H:=oI H
 refine xr ?_
 subst H
 exact xN
theorem Jy3(a0:List UInt8)(r:Int×Bool)(H:JjN a0=some r):PC Ji8 [dS a0] (T2 dI dB r):=PF.c (a:=a0) H
noncomputable def JbW(a0:List Token)(a1:Int):Bool→Option (List UInt8)
 | x1=>if x1=true then if(0:Int)≤a1∧a1.toNat<a0.length then some ((a0.getD a1.toNat default).Text) else none else some []
noncomputable def JdB(a0:List Token)(a1 a2 a3:Int):Option (List UInt8) :=
 if(ltI a1 (a0.length:Int))=true then if(0:Int)≤a1∧a1.toNat<a0.length then JbW a0 a1 (eqI ((a0.getD a1.toNat default).Kind) 5) else none else JbW a0 a1 false
def ZX(a0:List Token)(a1 a2 a3:Int)(r:(List UInt8)):GI :=
 ⟨[.c (.pt 1 0)],[[.d (.sl 11 (List.map Ja a0)),kI a1,kI a2,kI a3]],[],.ret (cS r) [[.d (.sl 11 (List.map Ja a0)),kI a1,kI a2,kI a3]] []⟩
def ZV:GI→Prop:=Sg4 JdB ZX
theorem Jla:∀ g,ZV g→Jm Tryz.prog 148 g:=by
 rintro _ ⟨a0,a1,a2,a3,r,H,rfl⟩
 refine xGn mixed [] [] [] trivial trivial trivial Tryz.func148 _ ?_
 have G:=True.intro
 have Y:=xZ y_3 <| xZ y_9 <| xZ y_24 <| xZ y_44 <| xZ Jkk <| xZ Tryz.results148 <| xZ Jl.eq_1 <| xZ Ja.eq_1 <| ZX.eq_1
 dsimp only[ZX]
 simp only[JdB]at H
 refine xS ?_
 refine xr0 ?_
 refine Jj ?_
 refine Kf ?_
 refine Jn (JbW a0 a1) (fun s=>[(0,.c (.pt 1 0)),(26,cB s)]) (fun s=>[[.d (.sl 11 (List.map Ja a0)),kI a1,kI a2,kI a3]]) [] r ?_ ?_
 ·rcases xB Y G H with⟨p,H,F,G,q⟩|⟨p,H,F,G,q⟩
  ·obtain⟨g,H⟩:=Jc H
   have F:=xZ F (Jh Ja a0 a1.toNat default default (by omega))
   refine xR ?_
   exact Jb H (xK ⟨[1],[]⟩)
  refine xR ?_
  exact Jb H (xK ⟨[1],[]⟩)
 rintro x1 H
 rw[JbW]at H
 rcases xB Y G H with⟨p,H,F,G,q⟩|⟨p,H,F,G,q⟩
 ·refine xT ?_
  obtain⟨g,H⟩:=Jc H
  have F:=xZ Y (Jh Ja a0 a1.toNat default default (by omega))
  replace H:=oI H
  refine xR ?_
  subst H
  refine xrD [] ?_
  exact xO ⟨[1],[]⟩
 refine xE ?_
 replace H:=oI H
 refine xr ?_
 subst H
 refine xrD [] ?_
 exact xO ⟨[1],[]⟩
theorem Jhl:Jd Tryz.prog 148∧(∀ g,ZV g→Jm Tryz.prog 148 g)∧(true=true→∀ g,ZV g→∃ val bs ts,g.out=.ret val bs ts) :=
 ⟨JBX,Jla,fun _=>by rintro _ ⟨_,_,_,_,_,_,rfl⟩; exact⟨_,_,_,rfl⟩⟩
noncomputable def V0(a0:List UInt8)(a1:List Token)(a2 a3 a4:Int):Option (Bool×Int) :=
 (JdB a1 a2 a3 a4).bind fun r1=>if(!eqS r1 a0)=true then some (false,a2) else some (true,IntKind.i64.wrap (a2+1))
def JaO(a0:List UInt8)(a1:List Token)(a2 a3 a4:Int)(r:(Bool×Int)):GI :=
 ⟨[.c (.pt 1 0),cS a0],[[.d (.sl 11 (List.map Ja a1)),kI a2,kI a3,kI a4]],[],.ret (cB r.1) [[.d (.sl 11 (List.map Ja a1)),kI r.2,kI a3,kI a4]] []⟩
def JaJ:GI→Prop:=Sg5 V0 JaO
theorem Jle:∀ g,JaJ g→Jm Tryz.prog 128 g:=by
 rintro _ ⟨a0,a1,a2,a3,a4,r,H,rfl⟩
 refine xGn mixed [] [(148,true,ZV)] [] trivial ⟨Jhl,trivial⟩ trivial Tryz.func128 _ ?_
 have G:=True.intro
 have Y:=xZ y_3 <| xZ Jkk <| xZ Tryz.results128 <| xZ Jl.eq_1 <| xZ Ja.eq_1 <| xZ ZX.eq_1 <| JaO.eq_1
 dsimp only[JaO]
 simp only[V0]at H
 refine xS ?_
 refine xr ?_
 obtain⟨r1,hr1,H⟩:=Ji H
 have F:=Y
 refine xQ ?_
 refine xs 1 ?_
 refine xc ⟨[1],[]⟩ (tabG 0 (cg4 hr1)) ?_
 refine xs 2 ?_
 refine xl ?_
 refine xS ?_
 rcases xB Y G H with⟨p,H,F,G,q⟩|⟨p,H,F,G,q⟩
 ·refine xT ?_
  replace H:=oI H
  refine xr ?_
  subst H
  refine xrD [] ?_
  exact xO ⟨[1],[]⟩
 refine xE ?_
 refine xr ?_
 replace H:=oI H
 refine xr ?_
 subst H
 refine xrD [] ?_
 exact xO ⟨[1],[]⟩
theorem JhG:Jd Tryz.prog 128∧(∀ g,JaJ g→Jm Tryz.prog 128 g)∧(true=true→∀ g,JaJ g→∃ val bs ts,g.out=.ret val bs ts) :=
 ⟨JBq,Jle,fun _=>by rintro _ ⟨_,_,_,_,_,_,_,rfl⟩; exact⟨_,_,_,rfl⟩⟩
noncomputable def Z4(a0:List Token)(a1 a2 a3:Int):Option Int :=
 some (IntKind.i64.wrap (a2-1))
def XA(a0:List Token)(a1 a2 a3 r:Int)(u:Option Value):DI :=
 ⟨[.c (.pt 1 0)],[[.pt 2 0],[.d (.sl 11 (List.map Ja a0)),kI a1,kI a2,kI a3]],[],u,[[.pt 2 0],[.d (.sl 11 (List.map Ja a0)),kI a1,kI r,kI a3]],[],u⟩
def Jc1:DI→Prop:=fun d=>∃ (a0:List Token) (a1 a2 a3 r:Int) (u:Option Value),Z4 a0 a1 a2 a3=some r∧d=XA a0 a1 a2 a3 r u
theorem JfN(a0:List Token)(a1 a2 a3 r:Int)(u:Option Value)(H:Z4 a0 a1 a2 a3=some r):Jc1 (XA a0 a1 a2 a3 r u):=⟨a0,a1,a2,a3,r,u,H,rfl⟩
theorem Ji6:∀ d,Jc1 d→DOk Tryz.prog 166 d:=by
 rintro _ ⟨a0,a1,a2,a3,r,u,H,rfl⟩
 refine xDf mixed [] [] trivial trivial Tryz.func166 _ ?_
 have G:=True.intro
 have Y:=xZ y_3 <| xZ JCL <| xZ Jkk <| xZ Tryz.results166 <| xZ Jl.eq_1 <| xZ Ja.eq_1 <| XA.eq_1
 dsimp only[XA]
 simp only[Z4]at H
 replace H:=oI H
 refine xr ?_
 subst H
 exact xDn ⟨[1,2],[]⟩
noncomputable def JbU(a0:List Token)(a1 a3:Int):(Bool×Int×Int×(List UInt8)×Bool×Bool×Int×Int×Int×Int×YV×(List Call)×Int)→Option YZ
 | (x1,x2,x3,x4,x5,x6,x7,x8,x9,x10,x11,x12,x13)=>if x1=true then(JjN x4).bind fun r2=>if(eqI x3 3)=true then none else if(!r2.2)=true then none else(Z4 a0 (IntKind.i64.wrap (a1+1)) x2 a3).bind fun r3=>some (r2.1,(IntKind.i64.wrap (a1+1)),r3) else(V0 [40] a0 a1 x2 a3).bind fun r4=>if r4.1=true then none else(V0 [45] a0 r4.2 x2 a3).bind fun r5=>if r5.1=true then none else(V0 [43] a0 r5.2 x2 a3).bind fun r6=>if r6.1=true then none else(V0 [126] a0 r6.2 x2 a3).bind fun r7=>if r7.1=true then none else(V0 [33] a0 r7.2 x2 a3).bind fun r8=>if r8.1=true then none else none
noncomputable def JfA(a0:List Token)(a1 a2 a3:Int):Option YZ :=
 if(eqI a2 30)=true then none else if(eqI a1 (a0.length:Int))=true then none else if(0:Int)≤a1∧a1.toNat<a0.length then if(eqI ((a0.getD a1.toNat default).Kind) 1)=true then(Z4 a0 (IntKind.i64.wrap (a1+1)) (IntKind.i64.wrap (a2+1)) a3).bind fun r1=>some (0,(IntKind.i64.wrap (a1+1)),r1) else if(eqI ((a0.getD a1.toNat default).Kind) 2)=true then JbU a0 a1 a3 (true,IntKind.i64.wrap (a2+1),(a0.getD a1.toNat default).Kind,(a0.getD a1.toNat default).Text,(a0.getD a1.toNat default).Space,(a0.getD a1.toNat default).First,(a0.getD a1.toNat default).File,(a0.getD a1.toNat default).At,(a0.getD a1.toNat default).End,(a0.getD a1.toNat default).Line,(a0.getD a1.toNat default).Hide,(a0.getD a1.toNat default).Calls,(a0.getD a1.toNat default).Made) else JbU a0 a1 a3 (eqI ((a0.getD a1.toNat default).Kind) 3,IntKind.i64.wrap (a2+1),(a0.getD a1.toNat default).Kind,(a0.getD a1.toNat default).Text,(a0.getD a1.toNat default).Space,(a0.getD a1.toNat default).First,(a0.getD a1.toNat default).File,(a0.getD a1.toNat default).At,(a0.getD a1.toNat default).End,(a0.getD a1.toNat default).Line,(a0.getD a1.toNat default).Hide,(a0.getD a1.toNat default).Calls,(a0.getD a1.toNat default).Made) else none
def Jcl(a0:List Token)(a1 a2 a3:Int)(r:YZ):GI :=
 ⟨[.c (.pt 1 0)],[[.d (.sl 11 (List.map Ja a0)),kI a1,kI a2,kI a3]],[],.ret (cI r.1) [[.d (.sl 11 (List.map Ja a0)),kI r.2.1,kI r.2.2,kI a3]] []⟩
def Jcr:GI→Prop:=Sg4 JfA Jcl
theorem Jlc:∀ g,Jcr g→Jm Tryz.prog 147 g:=by
 rintro _ ⟨a0,a1,a2,a3,r,H,rfl⟩
 refine xGn mixed [(167,Ji8)] [(128,true,JaJ)] [(166,Jc1)] ⟨⟨JA4,JwG⟩,trivial⟩ ⟨JhG,trivial⟩ ⟨⟨JBZ,Ji6⟩,trivial⟩ Tryz.func147 _ ?_
 have G:=True.intro
 have Y:=xZ y_3 <| xZ y_9 <| xZ y_24 <| xZ y_44 <| xZ JCL <| xZ Jkk <| xZ Tryz.results147 <| xZ Jl.eq_1 <| xZ Ja.eq_1 <| xZ JaO.eq_1 <| xZ XA.eq_1 <| Jcl.eq_1
 dsimp only[Jcl]
 simp only[JfA]at H
 refine xS ?_
 refine xr ?_
 refine xr ?_
 rcases xB Y G H with⟨p,H,F,G,q⟩|⟨p,H,F,G,q⟩
 ·refine xT ?_
  cases H
 refine xE ?_
 refine xr ?_
 have F:=Y
 refine xQ ?_
 refine xs 1 ?_
 refine xw ?_
 refine xl ?_
 refine xS ?_
 refine xr ?_
 rcases xB Y G H with⟨p,H,F,G,q⟩|⟨p,H,F,G,q⟩
 ·refine xT ?_
  cases H
 refine xE ?_
 obtain⟨g,H⟩:=Jc H
 have F:=xZ Y (Jh Ja a0 a1.toNat default default (by omega))
 refine xR ?_
 refine xr ?_
 rcases xB Y G H with⟨p,H,F,G,q⟩|⟨p,H,F,G,q⟩
 ·refine xT ?_
  refine xr ?_
  refine xr ?_
  refine xrD [(166,[.pt 2 0])] ?_
  obtain⟨r1,hr1,H⟩:=Ji H
  refine xD ⟨[2,1],[]⟩ (tabD 0 (JfN a0 (IntKind.i64.wrap (a1+1)) (IntKind.i64.wrap (a2+1)) a3 r1 none hr1)) ?_
  replace H:=oI H
  subst H
  exact xO ⟨[1],[]⟩
 refine xE0 ?_
 refine Jn (JbU a0 a1 a3) (fun s=>[(1,.c (.pt 2 0)),(3,.c (.pt 3 0)),(55,cB s.1),(1000000,.df [(166,[.pt 2 0])])]) (fun s=>[[.d (.sl 11 (List.map Ja a0)),kI a1,kI s.2.1,kI a3],[.pt 1 0],[kI s.2.2.1,kS s.2.2.2.1,kB s.2.2.2.2.1,kB s.2.2.2.2.2.1,kI s.2.2.2.2.2.2.1,kI s.2.2.2.2.2.2.2.1,kI s.2.2.2.2.2.2.2.2.1,kI s.2.2.2.2.2.2.2.2.2.1,.d (.sl 1 (List.map dS s.2.2.2.2.2.2.2.2.2.2.1)),.d (.sl 3 (List.map Jl s.2.2.2.2.2.2.2.2.2.2.2.1)),kI s.2.2.2.2.2.2.2.2.2.2.2.2]]) [] r ?_ ?_
 ·rcases xB Y G H with⟨p,H,F,G,q⟩|⟨p,H,F,G,q⟩
  ·refine xR ?_
   exact Jb H (xK ⟨[1,2,3],[]⟩)
  refine xR ?_
  exact Jb H (xK ⟨[1,2,3],[]⟩)
 rintro ⟨x1,x2,x3,x4,x5,x6,x7,x8,x9,x10,x11,x12,x13⟩ H
 rw[JbU]at H
 rcases xB Y G H with⟨p,H,F,G,q⟩|⟨p,H,F,G,q⟩
 ·refine xT ?_
  obtain⟨r2,hr2,H⟩:=Ji H
  have F:=xC Y (Jy3 x4 r2 hr2)
  refine xR ?_
  refine xr ?_
  rcases xB Y G H with⟨p,H,F,G,q⟩|⟨p,H,F,G,q⟩
  ·refine xT ?_
   cases H
  refine xE ?_
  refine xr ?_
  rcases xB Y G H with⟨p,H,F,G,q⟩|⟨p,H,F,G,q⟩
  ·refine xT ?_
   cases H
  refine xE ?_
  refine xr ?_
  refine xr ?_
  refine xrD [(166,[.pt 2 0])] ?_
  obtain⟨r3,hr3,H⟩:=Ji H
  refine xD ⟨[2,1],[]⟩ (tabD 0 (JfN a0 (IntKind.i64.wrap (a1+1)) x2 a3 r3 none hr3)) ?_
  replace H:=oI H
  subst H
  exact xO ⟨[1],[]⟩
 refine xE ?_
 obtain⟨r4,hr4,H⟩:=Ji H
 have F:=Y
 refine xQ ?_
 refine xs 1 ?_
 refine xc ⟨[1],[]⟩ (tabG 0 (cg5 hr4)) ?_
 refine xs 1 ?_
 refine xl ?_
 refine xS ?_
 rcases xB Y G H with⟨p,H,F,G,q⟩|⟨p,H,F,G,q⟩
 ·refine xT ?_
  cases H
 refine xE ?_
 obtain⟨r5,hr5,H⟩:=Ji H
 have F:=Y
 refine xQ ?_
 refine xs 1 ?_
 refine xc ⟨[1],[]⟩ (tabG 0 (cg5 hr5)) ?_
 refine xs 1 ?_
 refine xl ?_
 refine xS ?_
 rcases xB Y G H with⟨p,H,F,G,q⟩|⟨p,H,F,G,q⟩
 ·refine xT ?_
  cases H
 refine xE ?_
 obtain⟨r6,hr6,H⟩:=Ji H
 have F:=Y
 refine xQ ?_
 refine xs 1 ?_
 refine xc ⟨[1],[]⟩ (tabG 0 (cg5 hr6)) ?_
 refine xs 1 ?_
 refine xl ?_
 refine xS ?_
 rcases xB Y G H with⟨p,H,F,G,q⟩|⟨p,H,F,G,q⟩
 ·refine xT ?_
  cases H
 refine xE ?_
 obtain⟨r7,hr7,H⟩:=Ji H
 have F:=Y
 refine xQ ?_
 refine xs 1 ?_
 refine xc ⟨[1],[]⟩ (tabG 0 (cg5 hr7)) ?_
 refine xs 1 ?_
 refine xl ?_
 refine xS ?_
 rcases xB Y G H with⟨p,H,F,G,q⟩|⟨p,H,F,G,q⟩
 ·refine xT ?_
  cases H
 refine xE ?_
 obtain⟨r8,hr8,H⟩:=Ji H
 have F:=Y
 refine xQ ?_
 refine xs 1 ?_
 refine xc ⟨[1],[]⟩ (tabG 0 (cg5 hr8)) ?_
 refine xs 1 ?_
 refine xl ?_
 refine xS ?_
 rcases xB Y G H with⟨p,H,F,G,q⟩|⟨p,H,F,G,q⟩
 ·refine xT ?_
  cases H
 refine xE ?_
 cases H
theorem Jmo:Jd Tryz.prog 147∧(∀ g,Jcr g→Jm Tryz.prog 147 g)∧(true=true→∀ g,Jcr g→∃ val bs ts,g.out=.ret val bs ts) :=
 ⟨JBG,Jlc,fun _=>by rintro _ ⟨_,_,_,_,_,_,rfl⟩; exact⟨_,_,_,rfl⟩⟩
noncomputable def JdK:Bool→Option Int
 | x5=>if x5=true then some 10 else some 0
noncomputable def Jfv(a0:List UInt8):Bool→Option Int
 | x4=>if x4=true then some 9 else if(eqS a0 [42])=true then JdK true else if(eqS a0 [47])=true then JdK true else JdK (eqS a0 [37])
noncomputable def Jfy(a0:List UInt8):Bool→Option Int
 | x3=>if x3=true then some 8 else if(eqS a0 [43])=true then Jfv a0 true else Jfv a0 (eqS a0 [45])
noncomputable def Jb4(a0:List UInt8):Bool→Option Int
 | x2=>if x2=true then some 7 else if(eqS a0 [60,60])=true then Jfy a0 true else Jfy a0 (eqS a0 [62,62])
noncomputable def Jfm(a0:List UInt8):Bool→Option Int
 | x1=>if x1=true then some 6 else if(eqS a0 [60])=true then Jb4 a0 true else if(eqS a0 [62])=true then Jb4 a0 true else if(eqS a0 [60,61])=true then Jb4 a0 true else Jb4 a0 (eqS a0 [62,61])
noncomputable def JhR(a0:List UInt8):Option Int :=
 if(eqS a0 [124,124])=true then some 1 else if(eqS a0 [38,38])=true then some 2 else if(eqS a0 [124])=true then some 3 else if(eqS a0 [94])=true then some 4 else if(eqS a0 [38])=true then some 5 else if(eqS a0 [61,61])=true then Jfm a0 true else Jfm a0 (eqS a0 [33,61])
noncomputable def Jhv:PF:=PF.of (E1 dS) (fun a=>JhR a) dI
theorem JtY:JB Tryz.prog 149 Jhv:=by
 refine xF mixed [] [] trivial trivial Tryz.func149 ?_
 rintro a0 out H
 have G:=True.intro
 have Y:=Tryz.results149
 simp only[JhR]at H
 refine xS ?_
 refine xr ?_
 refine xr ?_
 refine xr ?_
 rcases xB Y G H with⟨p,H,F,G,q⟩|⟨p,H,F,G,q⟩
 ·refine xT ?_
  replace H:=oI H
  refine xr ?_
  subst H
  exact xN
 refine xE ?_
 refine xr ?_
 rcases xB Y G H with⟨p,H,F,G,q⟩|⟨p,H,F,G,q⟩
 ·refine xT ?_
  replace H:=oI H
  refine xr ?_
  subst H
  exact xN
 refine xE ?_
 refine xr ?_
 rcases xB Y G H with⟨p,H,F,G,q⟩|⟨p,H,F,G,q⟩
 ·refine xT ?_
  replace H:=oI H
  refine xr ?_
  subst H
  exact xN
 refine xE ?_
 refine xr ?_
 rcases xB Y G H with⟨p,H,F,G,q⟩|⟨p,H,F,G,q⟩
 ·refine xT ?_
  replace H:=oI H
  refine xr ?_
  subst H
  exact xN
 refine xE ?_
 refine xr ?_
 rcases xB Y G H with⟨p,H,F,G,q⟩|⟨p,H,F,G,q⟩
 ·refine xT ?_
  replace H:=oI H
  refine xr ?_
  subst H
  exact xN
 refine xE0 ?_
 refine Jn (Jfm a0) (fun s=>[(3,cS a0),(14,cB s)]) (fun s=>[]) [] out ?_ ?_
 ·refine xS ?_
  refine xr ?_
  rcases xB Y G H with⟨p,H,F,G,q⟩|⟨p,H,F,G,q⟩
  ·refine xT ?_
   exact Jb H (xK ⟨[],[]⟩)
  refine xE ?_
  refine xr ?_
  exact Jb H (xK ⟨[],[]⟩)
 rintro x1 H
 rw[Jfm]at H
 rcases xB Y G H with⟨p,H,F,G,q⟩|⟨p,H,F,G,q⟩
 ·refine xT ?_
  replace H:=oI H
  refine xr ?_
  subst H
  exact xN
 refine xE0 ?_
 refine Jn (Jb4 a0) (fun s=>[(3,cS a0),(17,cB s)]) (fun s=>[]) [] out ?_ ?_
 ·refine xS ?_
  refine xr ?_
  rcases xB Y G H with⟨p,H,F,G,q⟩|⟨p,H,F,G,q⟩
  ·refine xT ?_
   exact Jb H (xK ⟨[],[]⟩)
  refine xE ?_
  refine xr ?_
  rcases xB Y G H with⟨p,H,F,G,q⟩|⟨p,H,F,G,q⟩
  ·refine xT ?_
   exact Jb H (xK ⟨[],[]⟩)
  refine xE ?_
  refine xr ?_
  rcases xB Y G H with⟨p,H,F,G,q⟩|⟨p,H,F,G,q⟩
  ·refine xT ?_
   exact Jb H (xK ⟨[],[]⟩)
  refine xE ?_
  refine xr ?_
  exact Jb H (xK ⟨[],[]⟩)
 rintro x2 H
 rw[Jb4]at H
 rcases xB Y G H with⟨p,H,F,G,q⟩|⟨p,H,F,G,q⟩
 ·refine xT ?_
  replace H:=oI H
  refine xr ?_
  subst H
  exact xN
 refine xE0 ?_
 refine Jn (Jfy a0) (fun s=>[(3,cS a0),(22,cB s)]) (fun s=>[]) [] out ?_ ?_
 ·refine xS ?_
  refine xr ?_
  rcases xB Y G H with⟨p,H,F,G,q⟩|⟨p,H,F,G,q⟩
  ·refine xT ?_
   exact Jb H (xK ⟨[],[]⟩)
  refine xE ?_
  refine xr ?_
  exact Jb H (xK ⟨[],[]⟩)
 rintro x3 H
 rw[Jfy]at H
 rcases xB Y G H with⟨p,H,F,G,q⟩|⟨p,H,F,G,q⟩
 ·refine xT ?_
  replace H:=oI H
  refine xr ?_
  subst H
  exact xN
 refine xE0 ?_
 refine Jn (Jfv a0) (fun s=>[(3,cS a0),(25,cB s)]) (fun s=>[]) [] out ?_ ?_
 ·refine xS ?_
  refine xr ?_
  rcases xB Y G H with⟨p,H,F,G,q⟩|⟨p,H,F,G,q⟩
  ·refine xT ?_
   exact Jb H (xK ⟨[],[]⟩)
  refine xE ?_
  refine xr ?_
  exact Jb H (xK ⟨[],[]⟩)
 rintro x4 H
 rw[Jfv]at H
 rcases xB Y G H with⟨p,H,F,G,q⟩|⟨p,H,F,G,q⟩
 ·refine xT ?_
  replace H:=oI H
  refine xr ?_
  subst H
  exact xN
 refine xE0 ?_
 refine Jn JdK (fun s=>[(28,cB s)]) (fun s=>[]) [] out ?_ ?_
 ·refine xS ?_
  refine xr ?_
  rcases xB Y G H with⟨p,H,F,G,q⟩|⟨p,H,F,G,q⟩
  ·refine xT ?_
   exact Jb H (xK ⟨[],[]⟩)
  refine xE ?_
  refine xr ?_
  rcases xB Y G H with⟨p,H,F,G,q⟩|⟨p,H,F,G,q⟩
  ·refine xT ?_
   exact Jb H (xK ⟨[],[]⟩)
  refine xE ?_
  refine xr ?_
  exact Jb H (xK ⟨[],[]⟩)
 rintro x5 H
 rw[JdK]at H
 rcases xB Y G H with⟨p,H,F,G,q⟩|⟨p,H,F,G,q⟩
 ·refine xT ?_
  replace H:=oI H
  refine xr ?_
  subst H
  exact xN
 refine xE ?_
 replace H:=oI H
 refine xr ?_
 subst H
 exact xN
theorem Jv5(a0:List UInt8)(r:Int)(H:JhR a0=some r):PC Jhv [dS a0] (dI r):=PF.c (a:=a0) H
noncomputable def Jaz:(Bool×Int)→Option YJ
 | (x4,x5)=>none
noncomputable def KS(a4:Int):(Bool×Int)→Option YJ
 | (x2,x3)=>if x2=true then Jaz (true,IntKind.i64.wrap (a4+1)) else Jaz (false,a4)
noncomputable def Jah(a4:Int)(r1:YZ)(r2:(List UInt8)):Bool→Option YJ
 | x1=>if x1=true then inrO (some (r1.1,r1.2.1,r1.2.2)) else if(eqS r2 [38,38])=true then if(eqI r1.1 0)=true then KS a4 (true,IntKind.i64.wrap (r1.2.1+1)) else if(eqS r2 [124,124])=true then KS a4 (true,IntKind.i64.wrap (r1.2.1+1)) else KS a4 (false,IntKind.i64.wrap (r1.2.1+1)) else if(eqS r2 [124,124])=true then KS a4 (!eqI r1.1 0,IntKind.i64.wrap (r1.2.1+1)) else KS a4 (false,IntKind.i64.wrap (r1.2.1+1))
noncomputable def JcT(a0:Int)(a1:List Token)(a4:Int)(r1:YZ):Unit→Option YJ
 | ()=>(JdB a1 r1.2.1 r1.2.2 a4).bind fun r2=>(JhR r2).bind fun r3=>if(eqI r3 0)=true then Jah a4 r1 r2 true else Jah a4 r1 r2 (ltI r3 a0)
noncomputable def Jeh(a0:Int)(a1:List Token)(a2 a3 a4:Int):Option YZ :=
 (JfA a1 a2 a3 a4).bind fun r1=>Jv (JcT a0 a1 a4 r1) ()
def Jbj(a0:Int)(a1:List Token)(a2 a3 a4:Int)(r:YZ):GI :=
 ⟨[.c (.pt 1 0),cI a0],[[.d (.sl 11 (List.map Ja a1)),kI a2,kI a3,kI a4]],[],.ret (cI r.1) [[.d (.sl 11 (List.map Ja a1)),kI r.2.1,kI r.2.2,kI a4]] []⟩
def Ja3:GI→Prop:=Sg5 Jeh Jbj
theorem Jjh:∀ g,Ja3 g→Jm Tryz.prog 127 g:=by
 rintro _ ⟨a0,a1,a2,a3,a4,r,H,rfl⟩
 refine xGn mixed [(149,Jhv)] [(147,true,Jcr),(148,true,ZV)] [] ⟨⟨JBB,JtY⟩,trivial⟩ ⟨Jmo,Jhl,trivial⟩ trivial Tryz.func127 _ ?_
 have G:=True.intro
 have Y:=xZ y_3 <| xZ Jkk <| xZ Tryz.results127 <| xZ Jl.eq_1 <| xZ Ja.eq_1 <| xZ Jcl.eq_1 <| xZ ZX.eq_1 <| Jbj.eq_1
 dsimp only[Jbj]
 simp only[Jeh]at H
 refine xS ?_
 refine xr ?_
 obtain⟨r1,hr1,H⟩:=Ji H
 have F:=Y
 refine xQ ?_
 refine xs 1 ?_
 refine xc ⟨[1],[]⟩ (tabG 0 (cg4 hr1)) ?_
 refine xs 1 ?_
 refine xl ?_
 refine xS ?_
 refine JG (JcT a0 a1 a4 r1) (fun s=>[(0,.c (.pt 1 0)),(1,cI a0),(5,cI r1.1)]) (fun s=>[[.d (.sl 11 (List.map Ja a1)),kI r1.2.1,kI r1.2.2,kI a4]]) [] H (xK ⟨[1],[]⟩) ?_
 rintro n1 ⟨⟩ o1 H hF1
 rw[JcT]at H
 refine xS ?_
 obtain⟨r2,hr2,H⟩:=Ji H
 have F:=Y
 refine xQ ?_
 refine xs 1 ?_
 refine xc ⟨[1],[]⟩ (tabG 1 (cg4 hr2)) ?_
 refine xs 1 ?_
 refine xl ?_
 refine xS ?_
 obtain⟨r3,hr3,H⟩:=Ji H
 have F:=xC Y (Jv5 r2 r3 hr3)
 refine xR0 ?_
 refine Jj ?_
 refine Kf ?_
 refine Jn (Jah a4 r1 r2) (fun s=>[(0,.c (.pt 1 0)),(1,cI a0),(5,cI r1.1),(6,cS r2),(7,cI r3),(23,cB s)]) (fun s=>[[.d (.sl 11 (List.map Ja a1)),kI r1.2.1,kI r1.2.2,kI a4]]) [] o1 ?_ ?_
 ·rcases xB Y G H with⟨p,H,F,G,q⟩|⟨p,H,F,G,q⟩
  ·refine xR ?_
   exact Jb H (xK ⟨[1],[]⟩)
  refine xR ?_
  exact Jb H (xK ⟨[1],[]⟩)
 rintro x1 H
 rw[Jah]at H
 rcases xB Y G H with⟨p,H,F,G,q⟩|⟨p,H,F,G,q⟩
 ·refine xT ?_
  replace H:=Jq H hF1
  replace H:=oI H
  refine xr ?_
  subst H
  refine xrD [] ?_
  exact xO ⟨[1],[]⟩
 refine xE ?_
 refine xr ?_
 refine xr0 ?_
 refine Jj ?_
 refine Jn (KS a4) (fun s=>[(0,.c (.pt 1 0)),(1,cI a0),(5,cI r1.1),(6,cS r2),(7,cI r3),(8,cI r1.2.1),(9,cB s.1)]) (fun s=>[[.d (.sl 11 (List.map Ja a1)),kI s.2,kI r1.2.2,kI a4]]) [] o1 ?_ ?_
 ·rcases xB Y G H with⟨p,H,F,G,q⟩|⟨p,H,F,G,q⟩
  ·rcases xB F G H with⟨p,H,F,G,q⟩|⟨p,H,F,G,q⟩
   ·refine xR ?_
    exact Jb H (xK ⟨[1],[]⟩)
   rcases xB F G H with⟨p,H,F,G,q⟩|⟨p,H,F,G,q⟩
   ·refine xR ?_
    exact Jb H (xK ⟨[1],[]⟩)
   refine xR ?_
   exact Jb H (xK ⟨[1],[]⟩)
  rcases xB F G H with⟨p,H,F,G,q⟩|⟨p,H,F,G,q⟩
  ·refine xR ?_
   exact Jb H (xK ⟨[1],[]⟩)
  refine xR ?_
  exact Jb H (xK ⟨[1],[]⟩)
 rintro ⟨x2,x3⟩ H
 rw[KS]at H
 refine Jn Jaz (fun s=>[(0,.c (.pt 1 0)),(1,cI a0),(5,cI r1.1),(6,cS r2),(7,cI r3),(8,cI r1.2.1),(9,cB s.1)]) (fun s=>[[.d (.sl 11 (List.map Ja a1)),kI x3,kI r1.2.2,kI s.2]]) [] o1 ?_ ?_
 ·refine xS ?_
  refine xr ?_
  rcases xB Y G H with⟨p,H,F,G,q⟩|⟨p,H,F,G,q⟩
  ·refine xT ?_
   refine xr ?_
   exact Jb H (xK ⟨[1],[]⟩)
  refine xE ?_
  exact Jb H (xK ⟨[1],[]⟩)
 rintro ⟨x4,x5⟩ H
 rw[Jaz]at H
 refine xS ?_
 cases H
theorem Jkq:Jd Tryz.prog 127∧(∀ g,Ja3 g→Jm Tryz.prog 127 g)∧(true=true→∀ g,Ja3 g→∃ val bs ts,g.out=.ret val bs ts) :=
 ⟨JCc,Jjh,fun _=>by rintro _ ⟨_,_,_,_,_,_,_,rfl⟩; exact⟨_,_,_,rfl⟩⟩
noncomputable def JaA:(Bool×Int)→Option YJ
 | (x1,x2)=>none
noncomputable def Jde(a3:Int)(r1:YZ):Unit→Option YJ
 | ()=>if(eqB (!eqI r1.1 0) (eqI 0 1))=true then JaA (true,IntKind.i64.wrap (a3+1)) else JaA (false,a3)
noncomputable def Jet(a0:List Token)(a1 a2 a3:Int):Option YZ :=
 (Jeh 1 a0 a1 a2 a3).bind fun r1=>(V0 [63] a0 r1.2.1 r1.2.2 a3).bind fun r2=>if(!r2.1)=true then some (r1.1,r2.2,r1.2.2) else Jv (Jde a3 r1) ()
def Ja2(a0:List Token)(a1 a2 a3:Int)(r:YZ):GI :=
 ⟨[.c (.pt 1 0)],[[.d (.sl 11 (List.map Ja a0)),kI a1,kI a2,kI a3]],[],.ret (cI r.1) [[.d (.sl 11 (List.map Ja a0)),kI r.2.1,kI r.2.2,kI a3]] []⟩
def Ja9:GI→Prop:=Sg4 Jet Ja2
theorem JjH:∀ g,Ja9 g→Jm Tryz.prog 106 g:=by
 rintro _ ⟨a0,a1,a2,a3,r,H,rfl⟩
 refine xGn mixed [] [(127,true,Ja3),(128,true,JaJ)] [] trivial ⟨Jkq,JhG,trivial⟩ trivial Tryz.func106 _ ?_
 have G:=True.intro
 have Y:=xZ y_3 <| xZ y_4 <| xZ Jkk <| xZ JEX <| xZ Tryz.results106 <| xZ Jl.eq_1 <| xZ Ja.eq_1 <| xZ Jbj.eq_1 <| xZ JaO.eq_1 <| Ja2.eq_1
 dsimp only[Ja2]
 simp only[Jet]at H
 refine xS ?_
 refine xr ?_
 obtain⟨r1,hr1,H⟩:=Ji H
 have F:=Y
 refine xQ ?_
 refine xs 1 ?_
 refine xc ⟨[1],[]⟩ (tabG 0 (cg5 hr1)) ?_
 refine xs 1 ?_
 refine xl ?_
 refine xS ?_
 obtain⟨r2,hr2,H⟩:=Ji H
 have F:=Y
 refine xQ ?_
 refine xs 1 ?_
 refine xc ⟨[1],[]⟩ (tabG 1 (cg5 hr2)) ?_
 refine xs 1 ?_
 refine xl ?_
 refine xS ?_
 rcases xB Y G H with⟨p,H,F,G,q⟩|⟨p,H,F,G,q⟩
 ·refine xT ?_
  replace H:=oI H
  refine xr ?_
  subst H
  refine xrD [] ?_
  exact xO ⟨[1],[]⟩
 refine xE ?_
 refine xr ?_
 refine xr ?_
 refine JG (Jde a3 r1) (fun s=>[(0,.c (.pt 1 0)),(3,cI r1.1),(4,.c (.pt 2 0)),(14,cI 0)]) (fun s=>[[.d (.sl 11 (List.map Ja a0)),kI r2.2,kI r1.2.2,kI a3],[kI 0,kI 0]]) [] H (xK ⟨[1,4],[]⟩) ?_
 rintro n1 ⟨⟩ o1 H hF1
 rw[Jde]at H
 refine xS ?_
 refine xr ?_
 refine xt ?_
 refine xr ?_
 refine xr0 ?_
 refine Jj ?_
 refine Jn JaA (fun s=>[(0,.c (.pt 1 0)),(3,cI r1.1),(4,.c (.pt 2 0)),(5,cI 0),(6,cB s.1),(14,cI 0)]) (fun s=>[[.d (.sl 11 (List.map Ja a0)),kI r2.2,kI r1.2.2,kI s.2],[kI 0,kI 0]]) [] o1 ?_ ?_
 ·refine xS ?_
  refine xr ?_
  rcases xB Y G H with⟨p,H,F,G,q⟩|⟨p,H,F,G,q⟩
  ·refine xT ?_
   refine xr ?_
   exact Jb H (xK ⟨[1,2],[]⟩)
  refine xE ?_
  exact Jb H (xK ⟨[1,2],[]⟩)
 rintro ⟨x1,x2⟩ H
 rw[JaA]at H
 refine xS ?_
 cases H
theorem Jkc:Jd Tryz.prog 106∧(∀ g,Ja9 g→Jm Tryz.prog 106 g)∧(true=true→∀ g,Ja9 g→∃ val bs ts,g.out=.ret val bs ts) :=
 ⟨JAY,JjH,fun _=>by rintro _ ⟨_,_,_,_,_,_,rfl⟩; exact⟨_,_,_,rfl⟩⟩
noncomputable def Jg7(a0 a1 a2 a3:Int):Option Unit :=
 some ()
def JcW(a0 a1 a2 a3:Int)(r:Unit):DI :=
 ⟨[.c (.pt 1 0),.c (.pt 2 0)],[[kI a0],[kI a1,kI a2,kI a3]],[],none,[[kI a0],[kI a1,kI a2,kI a3]],[],none⟩
def JgO:DI→Prop:=fun d=>∃ (a0 a1 a2 a3:Int) (r:Unit),Jg7 a0 a1 a2 a3=some r∧d=JcW a0 a1 a2 a3 r
theorem Jqz(a0 a1 a2 a3:Int)(r:Unit)(H:Jg7 a0 a1 a2 a3=some r):JgO (JcW a0 a1 a2 a3 r):=⟨a0,a1,a2,a3,r,H,rfl⟩
theorem Joe:∀ d,JgO d→DOk Tryz.prog 105 d:=by
 rintro _ ⟨a0,a1,a2,a3,r,H,rfl⟩
 refine xRcl mixed [7] [] [] trivial trivial Tryz.func105 _ ?_
 have G:=True.intro
 have Y:=xZ y_3 <| xZ y_20 <| xZ y_31 <| xZ JE1 <| xZ Tryz.results105 <| JcW.eq_1
 dsimp only[JcW,Option.getD_some,Option.getD_none]
 unfold Jg7 at H
 refine xS ?_
 refine xr ?_
 refine xt ?_
 replace H:=oI H
 refine xr ?_
 subst H
 exact xDn ⟨[1,2],[]⟩
noncomputable def JlI(a0:List Token):Option (Int×Int) :=
 (Jet a0 0 0 0).bind fun r1=>if(ltI r1.2.1 (a0.length:Int))=true then none else(Jg7 r1.1 0 (-1) 0).bind fun r2=>some (r1.1,(-1))
def Jhd(a0:List Token)(r:(Int×Int)):GI :=
 ⟨[.c (.d (.sl 11 (List.map Ja a0)))],[],[],.ret (.tu [(false,[kI r.1]),(true,[kI 0,kI r.2,kI 0])]) [] []⟩
def Jhe:GI→Prop:=Sg1 JlI Jhd
theorem JvH:∀ g,Jhe g→Jm Tryz.prog 79 g:=by
 rintro _ ⟨a0,r,H,rfl⟩
 refine xGn mixed [] [(106,true,Ja9)] [(105,JgO)] trivial ⟨Jkc,trivial⟩ ⟨⟨JBx,Joe⟩,trivial⟩ Tryz.func79 _ ?_
 have G:=True.intro
 have Y:=xZ y_3 <| xZ y_24 <| xZ y_29 <| xZ y_31 <| xZ y_44 <| xZ Jkk <| xZ Tryz.results79 <| xZ Jl.eq_1 <| xZ Ja.eq_1 <| xZ Ja2.eq_1 <| xZ JcW.eq_1 <| Jhd.eq_1
 dsimp only[Jhd]
 simp only[JlI]at H
 refine xS ?_
 refine xr ?_
 have F:=Y
 refine xQ ?_
 refine xs 1 ?_
 refine xw ?_
 refine xl ?_
 refine xS ?_
 refine xr ?_
 obtain⟨r1,hr1,H⟩:=Ji H
 have F:=Y
 refine xQ ?_
 refine xs 1 ?_
 refine xc ⟨[3],[]⟩ (tabG 0 (cg4 hr1)) ?_
 refine xs 1 ?_
 refine xl ?_
 refine xS ?_
 refine xr ?_
 rcases xB Y G H with⟨p,H,F,G,q⟩|⟨p,H,F,G,q⟩
 ·refine xT ?_
  cases H
 refine xE ?_
 refine xr ?_
 refine xrD [(105,[.pt 1 0,.pt 2 0])] ?_
 obtain⟨r2,hr2,H⟩:=Ji H
 refine xD ⟨[1,2],[]⟩ (tabD 0 (Jqz r1.1 0 (-1) 0 r2 hr2)) ?_
 replace H:=oI H
 subst H
 exact xO ⟨[],[]⟩
theorem Ji5:Jd Tryz.prog 79∧(∀ g,Jhe g→Jm Tryz.prog 79 g)∧(true=true→∀ g,Jhe g→∃ val bs ts,g.out=.ret val bs ts) :=
 ⟨JDB,JvH,fun _=>by rintro _ ⟨_,_,_,rfl⟩; exact⟨_,_,_,rfl⟩⟩
end Go.Proofs.YtfkhlbhjhdpkoaaGreatDoor
