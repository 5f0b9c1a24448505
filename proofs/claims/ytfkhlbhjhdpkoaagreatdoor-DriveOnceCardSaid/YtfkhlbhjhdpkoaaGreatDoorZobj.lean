/- Functions of data for functions of the program. Written by dec3.py. -/
import Derived.Test.YtfkhlbhjhdpkoaaGreatDoorZoaw
import Derived.Test.YtfkhlbhjhdpkoaaGreatDoorZobf
set_option linter.unusedVariables false
set_option linter.unusedSimpArgs false
set_option maxHeartbeats 4000000
set_option maxRecDepth 100000
namespace Go.Proofs.YtfkhlbhjhdpkoaaGreatDoor
open Go.RowKit
noncomputable def Jfs(r1:Int×Bool):Bool→Option (Int×Bool)
 | x5=>if x5=true then some (0,false) else some (r1.1,true)
noncomputable def Jfr:((List UInt8)×Int)→Option (Int×Bool)
 | (x3,x4)=>(JbN x3 x4 64).bind fun r1=>if(!r1.2)=true then Jfs r1 true else if 0<x3.length then if(eqI ((x3.getD 0 0).toNat:Int) 43)=true then Jfs r1 true else if 0<x3.length then Jfs r1 (eqI ((x3.getD 0 0).toNat:Int) 45) else none else none
noncomputable def Jhi(x1:List UInt8):Bool→Option (Int×Bool)
 | x7=>if x7=true then if(0:Int)≤1∧1≤(x1.length:Int)∧(x1.length:Int)≤(x1.length:Int) then Jfr (List.drop 1 x1,8) else none else Jfr (x1,10)
noncomputable def Jfy(x1:List UInt8):Bool→Option (Int×Bool)
 | x6=>if x6=true then if(0:Int)≤2∧2≤(x1.length:Int)∧(x1.length:Int)≤(x1.length:Int) then Jfr (List.drop 2 x1,16) else none else if(ltI 1 (x1.length:Int))=true then if 0<x1.length then Jhi x1 (eqI ((x1.getD 0 0).toNat:Int) 48) else none else Jhi x1 false
noncomputable def JcR(x1:List UInt8):Bool→Option ((List UInt8) ⊕ (Int×Bool))
 | x2=>if x2=true then if(0:Int)≤0∧0≤(IntKind.i64.wrap ((x1.length:Int)-1))∧(IntKind.i64.wrap ((x1.length:Int)-1))≤(x1.length:Int) then some (.inl (List.take ((IntKind.i64.wrap ((x1.length:Int)-1)).toNat) x1)) else none else inrO (if(ltI 2 (x1.length:Int))=true then if(0:Int)≤0∧0≤2∧2≤(x1.length:Int) then if(eqS (List.take 2 x1) [48,120])=true then Jfy x1 true else if(0:Int)≤0∧0≤2∧2≤(x1.length:Int) then Jfy x1 (eqS (List.take 2 x1) [48,88]) else none else none else Jfy x1 false)
noncomputable def Jjh:(List UInt8)→Option ((List UInt8) ⊕ (Int×Bool))
 | x1=>if(ltI 1 (x1.length:Int))=true then if(0:Int)≤(IntKind.i64.wrap ((x1.length:Int)-1))∧(IntKind.i64.wrap ((x1.length:Int)-1)).toNat<x1.length then if(eqI ((x1.getD ((IntKind.i64.wrap ((x1.length:Int)-1)).toNat) 0).toNat:Int) 76)=true then JcR x1 true else if(0:Int)≤(IntKind.i64.wrap ((x1.length:Int)-1))∧(IntKind.i64.wrap ((x1.length:Int)-1)).toNat<x1.length then if(eqI ((x1.getD ((IntKind.i64.wrap ((x1.length:Int)-1)).toNat) 0).toNat:Int) 85)=true then JcR x1 true else if(0:Int)≤(IntKind.i64.wrap ((x1.length:Int)-1))∧(IntKind.i64.wrap ((x1.length:Int)-1)).toNat<x1.length then if(eqI ((x1.getD ((IntKind.i64.wrap ((x1.length:Int)-1)).toNat) 0).toNat:Int) 108)=true then JcR x1 true else if(0:Int)≤(IntKind.i64.wrap ((x1.length:Int)-1))∧(IntKind.i64.wrap ((x1.length:Int)-1)).toNat<x1.length then JcR x1 (eqI ((x1.getD ((IntKind.i64.wrap ((x1.length:Int)-1)).toNat) 0).toNat:Int) 117) else none else none else none else none else JcR x1 false
noncomputable def JkR(a0:List UInt8):Option (Int×Bool) :=
 Jt Jjh a0
noncomputable def Jjt:PF:=PF.of (E1 dS) (fun a=>JkR a) (T2 dI dB)
theorem Jxq:JC Tryz.prog 167 Jjt:=by
 refine xF mixed [(180,Jb4)] [] ⟨⟨JBF,Jlr⟩,trivial⟩ trivial Tryz.func167 ?_
 rintro a0 out H
 have G:=True.intro
 have Y:=xZ y_9 <| xZ JFv <| Tryz.results167
 simp only[JkR]at H
 refine xS ?_
 refine xr ?_
 refine JK Jjh (fun s=>[(0,cS s)]) (fun s=>[]) [] H (xK ⟨[],[]⟩) ?_
 rintro n1 x1 o1 H hF1
 rw[Jjh]at H
 refine Kv ?_
 refine Jo (JcR x1) (fun s=>[(0,cS x1),(41,cB s)]) (fun s=>[]) [] o1 ?_ ?_
 ·rcases xB Y G H with⟨p,H,F,G,q⟩|⟨p,H,F,G,q⟩
  ·obtain⟨g,H⟩:=Jc H
   rcases xB F G H with⟨p,H,F,G,q⟩|⟨p,H,F,G,q⟩
   ·refine xR ?_
    exact Jb H (xK ⟨[],[]⟩)
   obtain⟨g,H⟩:=Jc H
   rcases xB F G H with⟨p,H,F,G,q⟩|⟨p,H,F,G,q⟩
   ·refine xR ?_
    exact Jb H (xK ⟨[],[]⟩)
   obtain⟨g,H⟩:=Jc H
   rcases xB F G H with⟨p,H,F,G,q⟩|⟨p,H,F,G,q⟩
   ·refine xR ?_
    exact Jb H (xK ⟨[],[]⟩)
   obtain⟨g,H⟩:=Jc H
   refine xR ?_
   exact Jb H (xK ⟨[],[]⟩)
  refine xR ?_
  exact Jb H (xK ⟨[],[]⟩)
 rintro x2 H
 rw[JcR]at H
 rcases xB Y G H with⟨p,H,F,G,q⟩|⟨p,H,F,G,q⟩
 ·refine xT ?_
  obtain⟨g,H⟩:=Jc H
  refine xr ?_
  exact Jw (JA H hF1) (xK ⟨[],[]⟩)
 replace H:=Jq H hF1
 refine xE ?_
 refine xr0 ?_
 refine Jk ?_
 refine Jo Jfr (fun s=>[(0,cS s.1),(4,cI s.2)]) (fun s=>[]) [] out ?_ ?_
 ·refine Jas ?_
  refine Jo (Jfy x1) (fun s=>[(0,cS x1),(4,cI 10),(47,cB s)]) (fun s=>[]) [] out ?_ ?_
  ·rcases xB Y G H with⟨p,H,F,G,q⟩|⟨p,H,F,G,q⟩
   ·obtain⟨g,H⟩:=Jc H
    rcases xB F G H with⟨p,H,F,G,q⟩|⟨p,H,F,G,q⟩
    ·refine xR ?_
     exact Jb H (xK ⟨[],[]⟩)
    obtain⟨g,H⟩:=Jc H
    refine xR ?_
    exact Jb H (xK ⟨[],[]⟩)
   refine xR ?_
   exact Jb H (xK ⟨[],[]⟩)
  rintro x6 H
  rw[Jfy]at H
  rcases xB Y G H with⟨p,H,F,G,q⟩|⟨p,H,F,G,q⟩
  ·refine xT ?_
   obtain⟨g,H⟩:=Jc H
   refine xr ?_
   exact Jb H (xK ⟨[],[]⟩)
  refine xE0 ?_
  refine Jo (Jhi x1) (fun s=>[(0,cS x1),(4,cI 10),(63,cB s)]) (fun s=>[]) [] out ?_ ?_
  ·rcases xB Y G H with⟨p,H,F,G,q⟩|⟨p,H,F,G,q⟩
   ·obtain⟨g,H⟩:=Jc H
    refine xR ?_
    exact Jb H (xK ⟨[],[]⟩)
   refine xR ?_
   exact Jb H (xK ⟨[],[]⟩)
  rintro x7 H
  rw[Jhi]at H
  rcases xB Y G H with⟨p,H,F,G,q⟩|⟨p,H,F,G,q⟩
  ·refine xT ?_
   obtain⟨g,H⟩:=Jc H
   refine xr ?_
   exact Jb H (xK ⟨[],[]⟩)
  refine xE ?_
  exact Jb H (xK ⟨[],[]⟩)
 rintro ⟨x3,x4⟩ H
 rw[Jfr]at H
 refine xS ?_
 obtain⟨r1,hr1,H⟩:=Jj H
 have F:=xC Y (JmA x3 x4 64 r1 hr1)
 refine xR0 ?_
 refine Jk ?_
 refine Kv ?_
 refine Jo (Jfs r1) (fun s=>[(5,cI r1.1),(91,cB s)]) (fun s=>[]) [] out ?_ ?_
 ·rcases xB Y G H with⟨p,H,F,G,q⟩|⟨p,H,F,G,q⟩
  ·refine xR ?_
   exact Jb H (xK ⟨[],[]⟩)
  obtain⟨g,H⟩:=Jc H
  rcases xB F G H with⟨p,H,F,G,q⟩|⟨p,H,F,G,q⟩
  ·refine xR ?_
   exact Jb H (xK ⟨[],[]⟩)
  obtain⟨g,H⟩:=Jc H
  refine xR ?_
  exact Jb H (xK ⟨[],[]⟩)
 rintro x5 H
 rw[Jfs]at H
 rcases xB Y G H with⟨p,H,F,G,q⟩|⟨p,H,F,G,q⟩
 ·refine xT ?_
  replace H:=oI H
  refine xr ?_
  subst H
  exact xN
 refine xE ?_
 replace H:=oI H
 refine xr ?_
 subst H
 exact xN
theorem JzK(a0:List UInt8)(r:Int×Bool)(H:JkR a0=some r):PC Jjt [dS a0] (T2 dI dB r):=PF.c (a:=a0) H
noncomputable def Jb3(a0:List Token)(a1:Int):Bool→Option (List UInt8)
 | x1=>if x1=true then if(0:Int)≤a1∧a1.toNat<a0.length then some ((a0.getD a1.toNat default).Text) else none else some []
noncomputable def JdL(a0:List Token)(a1 a2 a3:Int):Option (List UInt8) :=
 if(ltI a1 (a0.length:Int))=true then if(0:Int)≤a1∧a1.toNat<a0.length then Jb3 a0 a1 (eqI ((a0.getD a1.toNat default).Kind) 5) else none else Jb3 a0 a1 false
def Jai(a0:List Token)(a1 a2 a3:Int)(r:(List UInt8)):GI :=
 ⟨[.c (.pt 1 0)],[[.d (.sl 11 (List.map Ja a0)),kI a1,kI a2,kI a3]],[],.ret (cS r) [[.d (.sl 11 (List.map Ja a0)),kI a1,kI a2,kI a3]] []⟩
def Jah:GI→Prop:=Sg4 JdL Jai
theorem Jln:∀ g,Jah g→Jn Tryz.prog 148 g:=by
 rintro _ ⟨a0,a1,a2,a3,r,H,rfl⟩
 refine xGn mixed [] [] [] trivial trivial trivial Tryz.func148 _ ?_
 have G:=True.intro
 have Y:=xZ y_3 <| xZ y_9 <| xZ y_24 <| xZ y_44 <| xZ JkN <| xZ Tryz.results148 <| xZ Jm.eq_1 <| xZ Ja.eq_1 <| Jai.eq_1
 dsimp only[Jai]
 simp only[JdL]at H
 refine xS ?_
 refine xr0 ?_
 refine Jk ?_
 refine Kv ?_
 refine Jo (Jb3 a0 a1) (fun s=>[(0,.c (.pt 1 0)),(26,cB s)]) (fun s=>[[.d (.sl 11 (List.map Ja a0)),kI a1,kI a2,kI a3]]) [] r ?_ ?_
 ·rcases xB Y G H with⟨p,H,F,G,q⟩|⟨p,H,F,G,q⟩
  ·obtain⟨g,H⟩:=Jc H
   have F:=xZ F (Jh Ja a0 a1.toNat default default (by omega))
   refine xR ?_
   exact Jb H (xK ⟨[1],[]⟩)
  refine xR ?_
  exact Jb H (xK ⟨[1],[]⟩)
 rintro x1 H
 rw[Jb3]at H
 rcases xB Y G H with⟨p,H,F,G,q⟩|⟨p,H,F,G,q⟩
 ·refine xT ?_
  obtain⟨g,H⟩:=Jc H
  have F:=xZ Y (Jh Ja a0 a1.toNat default default (by omega))
  replace H:=oI H
  refine xR ?_
  subst H
  refine xrD [] ?_
  exact xO ⟨[1],[]⟩
 refine xE ?_
 replace H:=oI H
 refine xr ?_
 subst H
 refine xrD [] ?_
 exact xO ⟨[1],[]⟩
theorem JhA:Jd Tryz.prog 148∧(∀ g,Jah g→Jn Tryz.prog 148 g)∧(true=true→∀ g,Jah g→∃ val bs ts,g.out=.ret val bs ts) :=
 ⟨JCF,Jln,fun _=>by rintro _ ⟨_,_,_,_,_,_,rfl⟩; exact⟨_,_,_,rfl⟩⟩
noncomputable def V6(a0:List UInt8)(a1:List Token)(a2 a3 a4:Int):Option (Bool×Int) :=
 (JdL a1 a2 a3 a4).bind fun r1=>if(!eqS r1 a0)=true then some (false,a2) else some (true,IntKind.i64.wrap (a2+1))
def Ja4(a0:List UInt8)(a1:List Token)(a2 a3 a4:Int)(r:(Bool×Int)):GI :=
 ⟨[.c (.pt 1 0),cS a0],[[.d (.sl 11 (List.map Ja a1)),kI a2,kI a3,kI a4]],[],.ret (cB r.1) [[.d (.sl 11 (List.map Ja a1)),kI r.2,kI a3,kI a4]] []⟩
def Ja0:GI→Prop:=Sg5 V6 Ja4
theorem Jm0:∀ g,Ja0 g→Jn Tryz.prog 128 g:=by
 rintro _ ⟨a0,a1,a2,a3,a4,r,H,rfl⟩
 refine xGn mixed [] [(148,true,Jah)] [] trivial ⟨JhA,trivial⟩ trivial Tryz.func128 _ ?_
 have G:=True.intro
 have Y:=xZ y_3 <| xZ JkN <| xZ Tryz.results128 <| xZ Jm.eq_1 <| xZ Ja.eq_1 <| xZ Jai.eq_1 <| Ja4.eq_1
 dsimp only[Ja4]
 simp only[V6]at H
 refine xS ?_
 refine xr ?_
 obtain⟨r1,hr1,H⟩:=Jj H
 have F:=Y
 refine xQ ?_
 refine xs 1 ?_
 refine xc ⟨[1],[]⟩ (tabG 0 (cg4 hr1)) ?_
 refine xs 2 ?_
 refine xl ?_
 refine xS ?_
 rcases xB Y G H with⟨p,H,F,G,q⟩|⟨p,H,F,G,q⟩
 ·refine xT ?_
  replace H:=oI H
  refine xr ?_
  subst H
  refine xrD [] ?_
  exact xO ⟨[1],[]⟩
 refine xE ?_
 refine xr ?_
 replace H:=oI H
 refine xr ?_
 subst H
 refine xrD [] ?_
 exact xO ⟨[1],[]⟩
theorem JhR:Jd Tryz.prog 128∧(∀ g,Ja0 g→Jn Tryz.prog 128 g)∧(true=true→∀ g,Ja0 g→∃ val bs ts,g.out=.ret val bs ts) :=
 ⟨JBz,Jm0,fun _=>by rintro _ ⟨_,_,_,_,_,_,_,rfl⟩; exact⟨_,_,_,rfl⟩⟩
noncomputable def Jam(a0:List Token)(a1 a2 a3:Int):Option Int :=
 some (IntKind.i64.wrap (a2-1))
def XH(a0:List Token)(a1 a2 a3 r:Int)(u:Option Value):DI :=
 ⟨[.c (.pt 1 0)],[[.pt 2 0],[.d (.sl 11 (List.map Ja a0)),kI a1,kI a2,kI a3]],[],u,[[.pt 2 0],[.d (.sl 11 (List.map Ja a0)),kI a1,kI r,kI a3]],[],u⟩
def Jdi:DI→Prop:=fun d=>∃ (a0:List Token) (a1 a2 a3 r:Int) (u:Option Value),Jam a0 a1 a2 a3=some r∧d=XH a0 a1 a2 a3 r u
theorem Jf6(a0:List Token)(a1 a2 a3 r:Int)(u:Option Value)(H:Jam a0 a1 a2 a3=some r):Jdi (XH a0 a1 a2 a3 r u):=⟨a0,a1,a2,a3,r,u,H,rfl⟩
theorem Jje:∀ d,Jdi d→DOk Tryz.prog 166 d:=by
 rintro _ ⟨a0,a1,a2,a3,r,u,H,rfl⟩
 refine xDf mixed [] [] trivial trivial Tryz.func166 _ ?_
 have G:=True.intro
 have Y:=xZ y_3 <| xZ JC2 <| xZ JkN <| xZ Tryz.results166 <| xZ Jm.eq_1 <| xZ Ja.eq_1 <| XH.eq_1
 dsimp only[XH]
 simp only[Jam]at H
 replace H:=oI H
 refine xr ?_
 subst H
 exact xDn ⟨[1,2],[]⟩
noncomputable def Jb5(a0:List Token)(a1 a3:Int):(Bool×Int×Int×(List UInt8)×Bool×Bool×Int×Int×Int×Int×YX×(List Call)×Int)→Option Yb1
 | (x1,x2,x3,x4,x5,x6,x7,x8,x9,x10,x11,x12,x13)=>if x1=true then(JkR x4).bind fun r2=>if(eqI x3 3)=true then none else if(!r2.2)=true then none else(Jam a0 (IntKind.i64.wrap (a1+1)) x2 a3).bind fun r3=>some (r2.1,(IntKind.i64.wrap (a1+1)),r3) else(V6 [40] a0 a1 x2 a3).bind fun r4=>if r4.1=true then none else(V6 [45] a0 r4.2 x2 a3).bind fun r5=>if r5.1=true then none else(V6 [43] a0 r5.2 x2 a3).bind fun r6=>if r6.1=true then none else(V6 [126] a0 r6.2 x2 a3).bind fun r7=>if r7.1=true then none else(V6 [33] a0 r7.2 x2 a3).bind fun r8=>if r8.1=true then none else none
noncomputable def JfS(a0:List Token)(a1 a2 a3:Int):Option Yb1 :=
 if(eqI a2 30)=true then none else if(eqI a1 (a0.length:Int))=true then none else if(0:Int)≤a1∧a1.toNat<a0.length then if(eqI ((a0.getD a1.toNat default).Kind) 1)=true then(Jam a0 (IntKind.i64.wrap (a1+1)) (IntKind.i64.wrap (a2+1)) a3).bind fun r1=>some (0,(IntKind.i64.wrap (a1+1)),r1) else if(eqI ((a0.getD a1.toNat default).Kind) 2)=true then Jb5 a0 a1 a3 (true,IntKind.i64.wrap (a2+1),(a0.getD a1.toNat default).Kind,(a0.getD a1.toNat default).Text,(a0.getD a1.toNat default).Space,(a0.getD a1.toNat default).First,(a0.getD a1.toNat default).File,(a0.getD a1.toNat default).At,(a0.getD a1.toNat default).End,(a0.getD a1.toNat default).Line,(a0.getD a1.toNat default).Hide,(a0.getD a1.toNat default).Calls,(a0.getD a1.toNat default).Made) else Jb5 a0 a1 a3 (eqI ((a0.getD a1.toNat default).Kind) 3,IntKind.i64.wrap (a2+1),(a0.getD a1.toNat default).Kind,(a0.getD a1.toNat default).Text,(a0.getD a1.toNat default).Space,(a0.getD a1.toNat default).First,(a0.getD a1.toNat default).File,(a0.getD a1.toNat default).At,(a0.getD a1.toNat default).End,(a0.getD a1.toNat default).Line,(a0.getD a1.toNat default).Hide,(a0.getD a1.toNat default).Calls,(a0.getD a1.toNat default).Made) else none
def Jcp(a0:List Token)(a1 a2 a3:Int)(r:Yb1):GI :=
 ⟨[.c (.pt 1 0)],[[.d (.sl 11 (List.map Ja a0)),kI a1,kI a2,kI a3]],[],.ret (cI r.1) [[.d (.sl 11 (List.map Ja a0)),kI r.2.1,kI r.2.2,kI a3]] []⟩
def JcJ:GI→Prop:=Sg4 JfS Jcp
theorem Jlq:∀ g,JcJ g→Jn Tryz.prog 147 g:=by
 rintro _ ⟨a0,a1,a2,a3,r,H,rfl⟩
 refine xGn mixed [(167,Jjt)] [(128,true,Ja0)] [(166,Jdi)] ⟨⟨JCV,Jxq⟩,trivial⟩ ⟨JhR,trivial⟩ ⟨⟨JBK,Jje⟩,trivial⟩ Tryz.func147 _ ?_
 have G:=True.intro
 have Y:=xZ y_3 <| xZ y_9 <| xZ y_24 <| xZ y_44 <| xZ JC2 <| xZ JkN <| xZ Tryz.results147 <| xZ Jm.eq_1 <| xZ Ja.eq_1 <| xZ Ja4.eq_1 <| xZ XH.eq_1 <| Jcp.eq_1
 dsimp only[Jcp]
 simp only[JfS]at H
 refine xS ?_
 refine xr ?_
 refine xr ?_
 rcases xB Y G H with⟨p,H,F,G,q⟩|⟨p,H,F,G,q⟩
 ·refine xT ?_
  cases H
 refine xE ?_
 refine xr ?_
 have F:=Y
 refine xQ ?_
 refine xs 1 ?_
 refine xw ?_
 refine xl ?_
 refine xS ?_
 refine xr ?_
 rcases xB Y G H with⟨p,H,F,G,q⟩|⟨p,H,F,G,q⟩
 ·refine xT ?_
  cases H
 refine xE ?_
 obtain⟨g,H⟩:=Jc H
 have F:=xZ Y (Jh Ja a0 a1.toNat default default (by omega))
 refine xR ?_
 refine xr ?_
 rcases xB Y G H with⟨p,H,F,G,q⟩|⟨p,H,F,G,q⟩
 ·refine xT ?_
  refine xr ?_
  refine xr ?_
  refine xrD [(166,[.pt 2 0])] ?_
  obtain⟨r1,hr1,H⟩:=Jj H
  refine xD ⟨[2,1],[]⟩ (tabD 0 (Jf6 a0 (IntKind.i64.wrap (a1+1)) (IntKind.i64.wrap (a2+1)) a3 r1 none hr1)) ?_
  replace H:=oI H
  subst H
  exact xO ⟨[1],[]⟩
 refine xE0 ?_
 refine Jo (Jb5 a0 a1 a3) (fun s=>[(1,.c (.pt 2 0)),(3,.c (.pt 3 0)),(55,cB s.1),(1000000,.df [(166,[.pt 2 0])])]) (fun s=>[[.d (.sl 11 (List.map Ja a0)),kI a1,kI s.2.1,kI a3],[.pt 1 0],[kI s.2.2.1,kS s.2.2.2.1,kB s.2.2.2.2.1,kB s.2.2.2.2.2.1,kI s.2.2.2.2.2.2.1,kI s.2.2.2.2.2.2.2.1,kI s.2.2.2.2.2.2.2.2.1,kI s.2.2.2.2.2.2.2.2.2.1,.d (.sl 1 (List.map dS s.2.2.2.2.2.2.2.2.2.2.1)),.d (.sl 3 (List.map Jm s.2.2.2.2.2.2.2.2.2.2.2.1)),kI s.2.2.2.2.2.2.2.2.2.2.2.2]]) [] r ?_ ?_
 ·rcases xB Y G H with⟨p,H,F,G,q⟩|⟨p,H,F,G,q⟩
  ·refine xR ?_
   exact Jb H (xK ⟨[1,2,3],[]⟩)
  refine xR ?_
  exact Jb H (xK ⟨[1,2,3],[]⟩)
 rintro ⟨x1,x2,x3,x4,x5,x6,x7,x8,x9,x10,x11,x12,x13⟩ H
 rw[Jb5]at H
 rcases xB Y G H with⟨p,H,F,G,q⟩|⟨p,H,F,G,q⟩
 ·refine xT ?_
  obtain⟨r2,hr2,H⟩:=Jj H
  have F:=xC Y (JzK x4 r2 hr2)
  refine xR ?_
  refine xr ?_
  rcases xB Y G H with⟨p,H,F,G,q⟩|⟨p,H,F,G,q⟩
  ·refine xT ?_
   cases H
  refine xE ?_
  refine xr ?_
  rcases xB Y G H with⟨p,H,F,G,q⟩|⟨p,H,F,G,q⟩
  ·refine xT ?_
   cases H
  refine xE ?_
  refine xr ?_
  refine xr ?_
  refine xrD [(166,[.pt 2 0])] ?_
  obtain⟨r3,hr3,H⟩:=Jj H
  refine xD ⟨[2,1],[]⟩ (tabD 0 (Jf6 a0 (IntKind.i64.wrap (a1+1)) x2 a3 r3 none hr3)) ?_
  replace H:=oI H
  subst H
  exact xO ⟨[1],[]⟩
 refine xE ?_
 obtain⟨r4,hr4,H⟩:=Jj H
 have F:=Y
 refine xQ ?_
 refine xs 1 ?_
 refine xc ⟨[1],[]⟩ (tabG 0 (cg5 hr4)) ?_
 refine xs 1 ?_
 refine xl ?_
 refine xS ?_
 rcases xB Y G H with⟨p,H,F,G,q⟩|⟨p,H,F,G,q⟩
 ·refine xT ?_
  cases H
 refine xE ?_
 obtain⟨r5,hr5,H⟩:=Jj H
 have F:=Y
 refine xQ ?_
 refine xs 1 ?_
 refine xc ⟨[1],[]⟩ (tabG 0 (cg5 hr5)) ?_
 refine xs 1 ?_
 refine xl ?_
 refine xS ?_
 rcases xB Y G H with⟨p,H,F,G,q⟩|⟨p,H,F,G,q⟩
 ·refine xT ?_
  cases H
 refine xE ?_
 obtain⟨r6,hr6,H⟩:=Jj H
 have F:=Y
 refine xQ ?_
 refine xs 1 ?_
 refine xc ⟨[1],[]⟩ (tabG 0 (cg5 hr6)) ?_
 refine xs 1 ?_
 refine xl ?_
 refine xS ?_
 rcases xB Y G H with⟨p,H,F,G,q⟩|⟨p,H,F,G,q⟩
 ·refine xT ?_
  cases H
 refine xE ?_
 obtain⟨r7,hr7,H⟩:=Jj H
 have F:=Y
 refine xQ ?_
 refine xs 1 ?_
 refine xc ⟨[1],[]⟩ (tabG 0 (cg5 hr7)) ?_
 refine xs 1 ?_
 refine xl ?_
 refine xS ?_
 rcases xB Y G H with⟨p,H,F,G,q⟩|⟨p,H,F,G,q⟩
 ·refine xT ?_
  cases H
 refine xE ?_
 obtain⟨r8,hr8,H⟩:=Jj H
 have F:=Y
 refine xQ ?_
 refine xs 1 ?_
 refine xc ⟨[1],[]⟩ (tabG 0 (cg5 hr8)) ?_
 refine xs 1 ?_
 refine xl ?_
 refine xS ?_
 rcases xB Y G H with⟨p,H,F,G,q⟩|⟨p,H,F,G,q⟩
 ·refine xT ?_
  cases H
 refine xE ?_
 cases H
theorem JlP:Jd Tryz.prog 147∧(∀ g,JcJ g→Jn Tryz.prog 147 g)∧(true=true→∀ g,JcJ g→∃ val bs ts,g.out=.ret val bs ts) :=
 ⟨JCz,Jlq,fun _=>by rintro _ ⟨_,_,_,_,_,_,rfl⟩; exact⟨_,_,_,rfl⟩⟩
noncomputable def JdR:Bool→Option Int
 | x5=>if x5=true then some 10 else some 0
noncomputable def JfB(a0:List UInt8):Bool→Option Int
 | x4=>if x4=true then some 9 else if(eqS a0 [42])=true then JdR true else if(eqS a0 [47])=true then JdR true else JdR (eqS a0 [37])
noncomputable def JfK(a0:List UInt8):Bool→Option Int
 | x3=>if x3=true then some 8 else if(eqS a0 [43])=true then JfB a0 true else JfB a0 (eqS a0 [45])
noncomputable def Jce(a0:List UInt8):Bool→Option Int
 | x2=>if x2=true then some 7 else if(eqS a0 [60,60])=true then JfK a0 true else JfK a0 (eqS a0 [62,62])
noncomputable def JfG(a0:List UInt8):Bool→Option Int
 | x1=>if x1=true then some 6 else if(eqS a0 [60])=true then Jce a0 true else if(eqS a0 [62])=true then Jce a0 true else if(eqS a0 [60,61])=true then Jce a0 true else Jce a0 (eqS a0 [62,61])
noncomputable def Jh4(a0:List UInt8):Option Int :=
 if(eqS a0 [124,124])=true then some 1 else if(eqS a0 [38,38])=true then some 2 else if(eqS a0 [124])=true then some 3 else if(eqS a0 [94])=true then some 4 else if(eqS a0 [38])=true then some 5 else if(eqS a0 [61,61])=true then JfG a0 true else JfG a0 (eqS a0 [33,61])
noncomputable def JhJ:PF:=PF.of (E1 dS) (fun a=>Jh4 a) dI
theorem JuG:JC Tryz.prog 149 JhJ:=by
 refine xF mixed [] [] trivial trivial Tryz.func149 ?_
 rintro a0 out H
 have G:=True.intro
 have Y:=Tryz.results149
 simp only[Jh4]at H
 refine xS ?_
 refine xr ?_
 refine xr ?_
 refine xr ?_
 rcases xB Y G H with⟨p,H,F,G,q⟩|⟨p,H,F,G,q⟩
 ·refine xT ?_
  replace H:=oI H
  refine xr ?_
  subst H
  exact xN
 refine xE ?_
 refine xr ?_
 rcases xB Y G H with⟨p,H,F,G,q⟩|⟨p,H,F,G,q⟩
 ·refine xT ?_
  replace H:=oI H
  refine xr ?_
  subst H
  exact xN
 refine xE ?_
 refine xr ?_
 rcases xB Y G H with⟨p,H,F,G,q⟩|⟨p,H,F,G,q⟩
 ·refine xT ?_
  replace H:=oI H
  refine xr ?_
  subst H
  exact xN
 refine xE ?_
 refine xr ?_
 rcases xB Y G H with⟨p,H,F,G,q⟩|⟨p,H,F,G,q⟩
 ·refine xT ?_
  replace H:=oI H
  refine xr ?_
  subst H
  exact xN
 refine xE ?_
 refine xr ?_
 rcases xB Y G H with⟨p,H,F,G,q⟩|⟨p,H,F,G,q⟩
 ·refine xT ?_
  replace H:=oI H
  refine xr ?_
  subst H
  exact xN
 refine xE0 ?_
 refine Jo (JfG a0) (fun s=>[(3,cS a0),(14,cB s)]) (fun s=>[]) [] out ?_ ?_
 ·refine xS ?_
  refine xr ?_
  rcases xB Y G H with⟨p,H,F,G,q⟩|⟨p,H,F,G,q⟩
  ·refine xT ?_
   exact Jb H (xK ⟨[],[]⟩)
  refine xE ?_
  refine xr ?_
  exact Jb H (xK ⟨[],[]⟩)
 rintro x1 H
 rw[JfG]at H
 rcases xB Y G H with⟨p,H,F,G,q⟩|⟨p,H,F,G,q⟩
 ·refine xT ?_
  replace H:=oI H
  refine xr ?_
  subst H
  exact xN
 refine xE0 ?_
 refine Jo (Jce a0) (fun s=>[(3,cS a0),(17,cB s)]) (fun s=>[]) [] out ?_ ?_
 ·refine xS ?_
  refine xr ?_
  rcases xB Y G H with⟨p,H,F,G,q⟩|⟨p,H,F,G,q⟩
  ·refine xT ?_
   exact Jb H (xK ⟨[],[]⟩)
  refine xE ?_
  refine xr ?_
  rcases xB Y G H with⟨p,H,F,G,q⟩|⟨p,H,F,G,q⟩
  ·refine xT ?_
   exact Jb H (xK ⟨[],[]⟩)
  refine xE ?_
  refine xr ?_
  rcases xB Y G H with⟨p,H,F,G,q⟩|⟨p,H,F,G,q⟩
  ·refine xT ?_
   exact Jb H (xK ⟨[],[]⟩)
  refine xE ?_
  refine xr ?_
  exact Jb H (xK ⟨[],[]⟩)
 rintro x2 H
 rw[Jce]at H
 rcases xB Y G H with⟨p,H,F,G,q⟩|⟨p,H,F,G,q⟩
 ·refine xT ?_
  replace H:=oI H
  refine xr ?_
  subst H
  exact xN
 refine xE0 ?_
 refine Jo (JfK a0) (fun s=>[(3,cS a0),(22,cB s)]) (fun s=>[]) [] out ?_ ?_
 ·refine xS ?_
  refine xr ?_
  rcases xB Y G H with⟨p,H,F,G,q⟩|⟨p,H,F,G,q⟩
  ·refine xT ?_
   exact Jb H (xK ⟨[],[]⟩)
  refine xE ?_
  refine xr ?_
  exact Jb H (xK ⟨[],[]⟩)
 rintro x3 H
 rw[JfK]at H
 rcases xB Y G H with⟨p,H,F,G,q⟩|⟨p,H,F,G,q⟩
 ·refine xT ?_
  replace H:=oI H
  refine xr ?_
  subst H
  exact xN
 refine xE0 ?_
 refine Jo (JfB a0) (fun s=>[(3,cS a0),(25,cB s)]) (fun s=>[]) [] out ?_ ?_
 ·refine xS ?_
  refine xr ?_
  rcases xB Y G H with⟨p,H,F,G,q⟩|⟨p,H,F,G,q⟩
  ·refine xT ?_
   exact Jb H (xK ⟨[],[]⟩)
  refine xE ?_
  refine xr ?_
  exact Jb H (xK ⟨[],[]⟩)
 rintro x4 H
 rw[JfB]at H
 rcases xB Y G H with⟨p,H,F,G,q⟩|⟨p,H,F,G,q⟩
 ·refine xT ?_
  replace H:=oI H
  refine xr ?_
  subst H
  exact xN
 refine xE0 ?_
 refine Jo JdR (fun s=>[(28,cB s)]) (fun s=>[]) [] out ?_ ?_
 ·refine xS ?_
  refine xr ?_
  rcases xB Y G H with⟨p,H,F,G,q⟩|⟨p,H,F,G,q⟩
  ·refine xT ?_
   exact Jb H (xK ⟨[],[]⟩)
  refine xE ?_
  refine xr ?_
  rcases xB Y G H with⟨p,H,F,G,q⟩|⟨p,H,F,G,q⟩
  ·refine xT ?_
   exact Jb H (xK ⟨[],[]⟩)
  refine xE ?_
  refine xr ?_
  exact Jb H (xK ⟨[],[]⟩)
 rintro x5 H
 rw[JdR]at H
 rcases xB Y G H with⟨p,H,F,G,q⟩|⟨p,H,F,G,q⟩
 ·refine xT ?_
  replace H:=oI H
  refine xr ?_
  subst H
  exact xN
 refine xE ?_
 replace H:=oI H
 refine xr ?_
 subst H
 exact xN
theorem JwR(a0:List UInt8)(r:Int)(H:Jh4 a0=some r):PC JhJ [dS a0] (dI r):=PF.c (a:=a0) H
noncomputable def Jar:(Bool×Int)→Option YK
 | (x4,x5)=>none
noncomputable def K3(a4:Int):(Bool×Int)→Option YK
 | (x2,x3)=>if x2=true then Jar (true,IntKind.i64.wrap (a4+1)) else Jar (false,a4)
noncomputable def Jav(a4:Int)(r1:Yb1)(r2:(List UInt8)):Bool→Option YK
 | x1=>if x1=true then inrO (some (r1.1,r1.2.1,r1.2.2)) else if(eqS r2 [38,38])=true then if(eqI r1.1 0)=true then K3 a4 (true,IntKind.i64.wrap (r1.2.1+1)) else if(eqS r2 [124,124])=true then K3 a4 (true,IntKind.i64.wrap (r1.2.1+1)) else K3 a4 (false,IntKind.i64.wrap (r1.2.1+1)) else if(eqS r2 [124,124])=true then K3 a4 (!eqI r1.1 0,IntKind.i64.wrap (r1.2.1+1)) else K3 a4 (false,IntKind.i64.wrap (r1.2.1+1))
noncomputable def Jdn(a0:Int)(a1:List Token)(a4:Int)(r1:Yb1):Unit→Option YK
 | ()=>(JdL a1 r1.2.1 r1.2.2 a4).bind fun r2=>(Jh4 r2).bind fun r3=>if(eqI r3 0)=true then Jav a4 r1 r2 true else Jav a4 r1 r2 (ltI r3 a0)
noncomputable def JeB(a0:Int)(a1:List Token)(a2 a3 a4:Int):Option Yb1 :=
 (JfS a1 a2 a3 a4).bind fun r1=>Jt (Jdn a0 a1 a4 r1) ()
def Jbo(a0:Int)(a1:List Token)(a2 a3 a4:Int)(r:Yb1):GI :=
 ⟨[.c (.pt 1 0),cI a0],[[.d (.sl 11 (List.map Ja a1)),kI a2,kI a3,kI a4]],[],.ret (cI r.1) [[.d (.sl 11 (List.map Ja a1)),kI r.2.1,kI r.2.2,kI a4]] []⟩
def Jbp:GI→Prop:=Sg5 JeB Jbo
theorem JjZ:∀ g,Jbp g→Jn Tryz.prog 127 g:=by
 rintro _ ⟨a0,a1,a2,a3,a4,r,H,rfl⟩
 refine xGn mixed [(149,JhJ)] [(147,true,JcJ),(148,true,Jah)] [] ⟨⟨JCQ,JuG⟩,trivial⟩ ⟨JlP,JhA,trivial⟩ trivial Tryz.func127 _ ?_
 have G:=True.intro
 have Y:=xZ y_3 <| xZ JkN <| xZ Tryz.results127 <| xZ Jm.eq_1 <| xZ Ja.eq_1 <| xZ Jcp.eq_1 <| xZ Jai.eq_1 <| Jbo.eq_1
 dsimp only[Jbo]
 simp only[JeB]at H
 refine xS ?_
 refine xr ?_
 obtain⟨r1,hr1,H⟩:=Jj H
 have F:=Y
 refine xQ ?_
 refine xs 1 ?_
 refine xc ⟨[1],[]⟩ (tabG 0 (cg4 hr1)) ?_
 refine xs 1 ?_
 refine xl ?_
 refine xS ?_
 refine JK (Jdn a0 a1 a4 r1) (fun s=>[(0,.c (.pt 1 0)),(1,cI a0),(5,cI r1.1)]) (fun s=>[[.d (.sl 11 (List.map Ja a1)),kI r1.2.1,kI r1.2.2,kI a4]]) [] H (xK ⟨[1],[]⟩) ?_
 rintro n1 ⟨⟩ o1 H hF1
 rw[Jdn]at H
 refine xS ?_
 obtain⟨r2,hr2,H⟩:=Jj H
 have F:=Y
 refine xQ ?_
 refine xs 1 ?_
 refine xc ⟨[1],[]⟩ (tabG 1 (cg4 hr2)) ?_
 refine xs 1 ?_
 refine xl ?_
 refine xS ?_
 obtain⟨r3,hr3,H⟩:=Jj H
 have F:=xC Y (JwR r2 r3 hr3)
 refine xR0 ?_
 refine Jk ?_
 refine Kv ?_
 refine Jo (Jav a4 r1 r2) (fun s=>[(0,.c (.pt 1 0)),(1,cI a0),(5,cI r1.1),(6,cS r2),(7,cI r3),(23,cB s)]) (fun s=>[[.d (.sl 11 (List.map Ja a1)),kI r1.2.1,kI r1.2.2,kI a4]]) [] o1 ?_ ?_
 ·rcases xB Y G H with⟨p,H,F,G,q⟩|⟨p,H,F,G,q⟩
  ·refine xR ?_
   exact Jb H (xK ⟨[1],[]⟩)
  refine xR ?_
  exact Jb H (xK ⟨[1],[]⟩)
 rintro x1 H
 rw[Jav]at H
 rcases xB Y G H with⟨p,H,F,G,q⟩|⟨p,H,F,G,q⟩
 ·refine xT ?_
  replace H:=Jq H hF1
  replace H:=oI H
  refine xr ?_
  subst H
  refine xrD [] ?_
  exact xO ⟨[1],[]⟩
 refine xE ?_
 refine xr ?_
 refine xr0 ?_
 refine Jk ?_
 refine Jo (K3 a4) (fun s=>[(0,.c (.pt 1 0)),(1,cI a0),(5,cI r1.1),(6,cS r2),(7,cI r3),(8,cI r1.2.1),(9,cB s.1)]) (fun s=>[[.d (.sl 11 (List.map Ja a1)),kI s.2,kI r1.2.2,kI a4]]) [] o1 ?_ ?_
 ·rcases xB Y G H with⟨p,H,F,G,q⟩|⟨p,H,F,G,q⟩
  ·rcases xB F G H with⟨p,H,F,G,q⟩|⟨p,H,F,G,q⟩
   ·refine xR ?_
    exact Jb H (xK ⟨[1],[]⟩)
   rcases xB F G H with⟨p,H,F,G,q⟩|⟨p,H,F,G,q⟩
   ·refine xR ?_
    exact Jb H (xK ⟨[1],[]⟩)
   refine xR ?_
   exact Jb H (xK ⟨[1],[]⟩)
  rcases xB F G H with⟨p,H,F,G,q⟩|⟨p,H,F,G,q⟩
  ·refine xR ?_
   exact Jb H (xK ⟨[1],[]⟩)
  refine xR ?_
  exact Jb H (xK ⟨[1],[]⟩)
 rintro ⟨x2,x3⟩ H
 rw[K3]at H
 refine Jo Jar (fun s=>[(0,.c (.pt 1 0)),(1,cI a0),(5,cI r1.1),(6,cS r2),(7,cI r3),(8,cI r1.2.1),(9,cB s.1)]) (fun s=>[[.d (.sl 11 (List.map Ja a1)),kI x3,kI r1.2.2,kI s.2]]) [] o1 ?_ ?_
 ·refine xS ?_
  refine xr ?_
  rcases xB Y G H with⟨p,H,F,G,q⟩|⟨p,H,F,G,q⟩
  ·refine xT ?_
   refine xr ?_
   exact Jb H (xK ⟨[1],[]⟩)
  refine xE ?_
  exact Jb H (xK ⟨[1],[]⟩)
 rintro ⟨x4,x5⟩ H
 rw[Jar]at H
 refine xS ?_
 cases H
theorem Jkf:Jd Tryz.prog 127∧(∀ g,Jbp g→Jn Tryz.prog 127 g)∧(true=true→∀ g,Jbp g→∃ val bs ts,g.out=.ret val bs ts) :=
 ⟨JBv,JjZ,fun _=>by rintro _ ⟨_,_,_,_,_,_,_,rfl⟩; exact⟨_,_,_,rfl⟩⟩
noncomputable def JaH:(Bool×Int)→Option YK
 | (x1,x2)=>none
noncomputable def Jc2(a3:Int)(r1:Yb1):Unit→Option YK
 | ()=>if(eqB (!eqI r1.1 0) (eqI 0 1))=true then JaH (true,IntKind.i64.wrap (a3+1)) else JaH (false,a3)
noncomputable def JeC(a0:List Token)(a1 a2 a3:Int):Option Yb1 :=
 (JeB 1 a0 a1 a2 a3).bind fun r1=>(V6 [63] a0 r1.2.1 r1.2.2 a3).bind fun r2=>if(!r2.1)=true then some (r1.1,r2.2,r1.2.2) else Jt (Jc2 a3 r1) ()
def Jbn(a0:List Token)(a1 a2 a3:Int)(r:Yb1):GI :=
 ⟨[.c (.pt 1 0)],[[.d (.sl 11 (List.map Ja a0)),kI a1,kI a2,kI a3]],[],.ret (cI r.1) [[.d (.sl 11 (List.map Ja a0)),kI r.2.1,kI r.2.2,kI a3]] []⟩
def Jbq:GI→Prop:=Sg4 JeC Jbn
theorem JjD:∀ g,Jbq g→Jn Tryz.prog 106 g:=by
 rintro _ ⟨a0,a1,a2,a3,r,H,rfl⟩
 refine xGn mixed [] [(127,true,Jbp),(128,true,Ja0)] [] trivial ⟨Jkf,JhR,trivial⟩ trivial Tryz.func106 _ ?_
 have G:=True.intro
 have Y:=xZ y_3 <| xZ y_4 <| xZ JkN <| xZ JFM <| xZ Tryz.results106 <| xZ Jm.eq_1 <| xZ Ja.eq_1 <| xZ Jbo.eq_1 <| xZ Ja4.eq_1 <| Jbn.eq_1
 dsimp only[Jbn]
 simp only[JeC]at H
 refine xS ?_
 refine xr ?_
 obtain⟨r1,hr1,H⟩:=Jj H
 have F:=Y
 refine xQ ?_
 refine xs 1 ?_
 refine xc ⟨[1],[]⟩ (tabG 0 (cg5 hr1)) ?_
 refine xs 1 ?_
 refine xl ?_
 refine xS ?_
 obtain⟨r2,hr2,H⟩:=Jj H
 have F:=Y
 refine xQ ?_
 refine xs 1 ?_
 refine xc ⟨[1],[]⟩ (tabG 1 (cg5 hr2)) ?_
 refine xs 1 ?_
 refine xl ?_
 refine xS ?_
 rcases xB Y G H with⟨p,H,F,G,q⟩|⟨p,H,F,G,q⟩
 ·refine xT ?_
  replace H:=oI H
  refine xr ?_
  subst H
  refine xrD [] ?_
  exact xO ⟨[1],[]⟩
 refine xE ?_
 refine xr ?_
 refine xr ?_
 refine JK (Jc2 a3 r1) (fun s=>[(0,.c (.pt 1 0)),(3,cI r1.1),(4,.c (.pt 2 0)),(14,cI 0)]) (fun s=>[[.d (.sl 11 (List.map Ja a0)),kI r2.2,kI r1.2.2,kI a3],[kI 0,kI 0]]) [] H (xK ⟨[1,4],[]⟩) ?_
 rintro n1 ⟨⟩ o1 H hF1
 rw[Jc2]at H
 refine xS ?_
 refine xr ?_
 refine xt ?_
 refine xr ?_
 refine xr0 ?_
 refine Jk ?_
 refine Jo JaH (fun s=>[(0,.c (.pt 1 0)),(3,cI r1.1),(4,.c (.pt 2 0)),(5,cI 0),(6,cB s.1),(14,cI 0)]) (fun s=>[[.d (.sl 11 (List.map Ja a0)),kI r2.2,kI r1.2.2,kI s.2],[kI 0,kI 0]]) [] o1 ?_ ?_
 ·refine xS ?_
  refine xr ?_
  rcases xB Y G H with⟨p,H,F,G,q⟩|⟨p,H,F,G,q⟩
  ·refine xT ?_
   refine xr ?_
   exact Jb H (xK ⟨[1,2],[]⟩)
  refine xE ?_
  exact Jb H (xK ⟨[1,2],[]⟩)
 rintro ⟨x1,x2⟩ H
 rw[JaH]at H
 refine xS ?_
 cases H
theorem JkJ:Jd Tryz.prog 106∧(∀ g,Jbq g→Jn Tryz.prog 106 g)∧(true=true→∀ g,Jbq g→∃ val bs ts,g.out=.ret val bs ts) :=
 ⟨JCj,JjD,fun _=>by rintro _ ⟨_,_,_,_,_,_,rfl⟩; exact⟨_,_,_,rfl⟩⟩
noncomputable def Jhn(a0 a1 a2 a3:Int):Option Unit :=
 some ()
def Jdm(a0 a1 a2 a3:Int)(r:Unit):DI :=
 ⟨[.c (.pt 1 0),.c (.pt 2 0)],[[kI a0],[kI a1,kI a2,kI a3]],[],none,[[kI a0],[kI a1,kI a2,kI a3]],[],none⟩
def JgY:DI→Prop:=fun d=>∃ (a0 a1 a2 a3:Int) (r:Unit),Jhn a0 a1 a2 a3=some r∧d=Jdm a0 a1 a2 a3 r
theorem JqX(a0 a1 a2 a3:Int)(r:Unit)(H:Jhn a0 a1 a2 a3=some r):JgY (Jdm a0 a1 a2 a3 r):=⟨a0,a1,a2,a3,r,H,rfl⟩
theorem JpV:∀ d,JgY d→DOk Tryz.prog 105 d:=by
 rintro _ ⟨a0,a1,a2,a3,r,H,rfl⟩
 refine xRcl mixed [7] [] [] trivial trivial Tryz.func105 _ ?_
 have G:=True.intro
 have Y:=xZ y_3 <| xZ y_20 <| xZ y_31 <| xZ JFB <| xZ Tryz.results105 <| Jdm.eq_1
 dsimp only[Jdm,Option.getD_some,Option.getD_none]
 unfold Jhn at H
 refine xS ?_
 refine xr ?_
 refine xt ?_
 replace H:=oI H
 refine xr ?_
 subst H
 exact xDn ⟨[1,2],[]⟩
noncomputable def JmG(a0:List Token):Option (Int×Int) :=
 (JeC a0 0 0 0).bind fun r1=>if(ltI r1.2.1 (a0.length:Int))=true then none else(Jhn r1.1 0 (-1) 0).bind fun r2=>some (r1.1,(-1))
def Jhq(a0:List Token)(r:(Int×Int)):GI :=
 ⟨[.c (.d (.sl 11 (List.map Ja a0)))],[],[],.ret (.tu [(false,[kI r.1]),(true,[kI 0,kI r.2,kI 0])]) [] []⟩
def Jhk:GI→Prop:=Sg1 JmG Jhq
theorem Jwy:∀ g,Jhk g→Jn Tryz.prog 79 g:=by
 rintro _ ⟨a0,r,H,rfl⟩
 refine xGn mixed [] [(106,true,Jbq)] [(105,JgY)] trivial ⟨JkJ,trivial⟩ ⟨⟨JBE,JpV⟩,trivial⟩ Tryz.func79 _ ?_
 have G:=True.intro
 have Y:=xZ y_3 <| xZ y_24 <| xZ y_29 <| xZ y_31 <| xZ y_44 <| xZ JkN <| xZ Tryz.results79 <| xZ Jm.eq_1 <| xZ Ja.eq_1 <| xZ Jbn.eq_1 <| xZ Jdm.eq_1 <| Jhq.eq_1
 dsimp only[Jhq]
 simp only[JmG]at H
 refine xS ?_
 refine xr ?_
 have F:=Y
 refine xQ ?_
 refine xs 1 ?_
 refine xw ?_
 refine xl ?_
 refine xS ?_
 refine xr ?_
 obtain⟨r1,hr1,H⟩:=Jj H
 have F:=Y
 refine xQ ?_
 refine xs 1 ?_
 refine xc ⟨[3],[]⟩ (tabG 0 (cg4 hr1)) ?_
 refine xs 1 ?_
 refine xl ?_
 refine xS ?_
 refine xr ?_
 rcases xB Y G H with⟨p,H,F,G,q⟩|⟨p,H,F,G,q⟩
 ·refine xT ?_
  cases H
 refine xE ?_
 refine xr ?_
 refine xrD [(105,[.pt 1 0,.pt 2 0])] ?_
 obtain⟨r2,hr2,H⟩:=Jj H
 refine xD ⟨[1,2],[]⟩ (tabD 0 (JqX r1.1 0 (-1) 0 r2 hr2)) ?_
 replace H:=oI H
 subst H
 exact xO ⟨[],[]⟩
theorem Jjl:Jd Tryz.prog 79∧(∀ g,Jhk g→Jn Tryz.prog 79 g)∧(true=true→∀ g,Jhk g→∃ val bs ts,g.out=.ret val bs ts) :=
 ⟨JEB,Jwy,fun _=>by rintro _ ⟨_,_,_,rfl⟩; exact⟨_,_,_,rfl⟩⟩
end Go.Proofs.YtfkhlbhjhdpkoaaGreatDoor
