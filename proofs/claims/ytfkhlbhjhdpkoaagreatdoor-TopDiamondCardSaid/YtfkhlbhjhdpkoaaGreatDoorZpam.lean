/- Functions of data for functions of the program. Written by dec3.py. -/
import Derived.Test.YtfkhlbhjhdpkoaaGreatDoorZpal
set_option linter.unusedVariables false
set_option linter.unusedSimpArgs false
set_option maxHeartbeats 4000000
set_option maxRecDepth 100000
namespace Go.Proofs.YtfkhlbhjhdpkoaaGreatDoor
open Go.RowKit
noncomputable def JbK:Bool→Option Int
 | x2=>if x2=true then some 3 else some 0
noncomputable def JbQ(a0:List UInt8):Bool→Option Int
 | x1=>if x1=true then some 2 else if(leI 3 (a0.length:Int))=true then if(0:Int)≤0∧0≤3∧3≤(a0.length:Int) then JbK (eqS (List.take 3 a0) [92,13,10]) else none else JbK false
noncomputable def Jbm(a0:List UInt8):Option Int :=
 if(leI 2 (a0.length:Int))=true then if(0:Int)≤0∧0≤2∧2≤(a0.length:Int) then JbQ a0 (eqS (List.take 2 a0) [92,10]) else none else JbQ a0 false
noncomputable def Jfi:PF:=PF.of (E1 dS) (fun a=>Jbm a) dI
theorem JoM:JE Tryz.prog 67 Jfi:=by
 refine xF mixed [] [] trivial trivial Tryz.func67 ?_
 rintro a0 out H
 have G:=True.intro
 have Y:=xZ y_9 <| Tryz.results67
 simp only[Jbm]at H
 refine xS ?_
 refine xr0 ?_
 refine Jm ?_
 refine Vi ?_
 refine Ja3 ?_
 refine Jp (JbQ a0) (fun s=>[(0,cS a0),(3,cB s)]) (fun s=>[]) [] out ?_ ?_
 ·rcases xB Y G H with⟨p,H,F,G,q⟩|⟨p,H,F,G,q⟩
  ·obtain⟨g,H⟩:=Jd H
   refine xR ?_
   exact Jb H (xK ⟨[],[]⟩)
  refine xR ?_
  exact Jb H (xK ⟨[],[]⟩)
 rintro x1 H
 rw[JbQ]at H
 rcases xB Y G H with⟨p,H,F,G,q⟩|⟨p,H,F,G,q⟩
 ·refine xT ?_
  replace H:=oI H
  refine xr ?_
  subst H
  exact xN
 refine xE0 ?_
 refine Jp JbK (fun s=>[(12,cB s)]) (fun s=>[]) [] out ?_ ?_
 ·rcases xB Y G H with⟨p,H,F,G,q⟩|⟨p,H,F,G,q⟩
  ·obtain⟨g,H⟩:=Jd H
   refine xR ?_
   exact Jb H (xK ⟨[],[]⟩)
  refine xR ?_
  exact Jb H (xK ⟨[],[]⟩)
 rintro x2 H
 rw[JbK]at H
 rcases xB Y G H with⟨p,H,F,G,q⟩|⟨p,H,F,G,q⟩
 ·refine xT ?_
  replace H:=oI H
  refine xr ?_
  subst H
  exact xN
 refine xE ?_
 replace H:=oI H
 refine xr ?_
 subst H
 exact xN
theorem Jix(a0:List UInt8)(r:Int)(H:Jbm a0=some r):PC Jfi [dS a0] (dI r):=PF.c (a:=a0) H
noncomputable def Ja2(a0 x1:List UInt8)(x2:List Int)(x3:Int)(x4:List UInt8):Bool→Option Yn
 | x5=>if x5=true then some (.inl (x1,x2,IntKind.i64.wrap (x3+1),x4)) else if(0:Int)≤x3∧x3.toNat<a0.length then if(x1.length + [(a0.getD x3.toNat 0)].length) * 1≤140737488355328 then if(x2.length + [x3].length) * 8≤140737488355328 then some (.inl (x1++[(a0.getD x3.toNat 0)],x2++[x3],IntKind.i64.wrap (x3+1),x4)) else none else none else none
noncomputable def Jcq(a0:List UInt8):((List UInt8)×(List Int)×Int×(List UInt8))→Option Yn
 | (x1,x2,x3,x4)=>if(ltI x3 (a0.length:Int))=true then if(0:Int)≤x3∧x3≤(a0.length:Int)∧(a0.length:Int)≤(a0.length:Int) then(Jbm (List.drop x3.toNat a0)).bind fun r1=>if(ltI 0 r1)=true then if(0:Int)≤x3∧x3≤(a0.length:Int)∧(a0.length:Int)≤(a0.length:Int) then(Jbm (List.drop x3.toNat a0)).bind fun r2=>some (.inl (x1,x2,IntKind.i64.wrap (x3+r2),x4)) else none else if(0:Int)≤x3∧x3.toNat<a0.length then if(eqI ((a0.getD x3.toNat 0).toNat:Int) 13)=true then if(ltI (IntKind.i64.wrap (x3+1)) (a0.length:Int))=true then if(0:Int)≤(IntKind.i64.wrap (x3+1))∧(IntKind.i64.wrap (x3+1)).toNat<a0.length then Ja2 a0 x1 x2 x3 x4 (eqI ((a0.getD ((IntKind.i64.wrap (x3+1)).toNat) 0).toNat:Int) 10) else none else Ja2 a0 x1 x2 x3 x4 false else Ja2 a0 x1 x2 x3 x4 false else none else none else inrO (if(x2.length + [(a0.length:Int)].length) * 8≤140737488355328 then some (⟨x1,x2++[(a0.length:Int)]⟩:Spliced) else none)
noncomputable def Jdm(a0:List UInt8):Option Spliced :=
 Jy (Jcq a0) (([]:List UInt8),([]:List Int),0,[])
noncomputable def Jga:PF:=PF.of (E1 dS) (fun a=>Jdm a) J5
theorem JpI:JE Tryz.prog 47 Jga:=by
 refine xF mixed [(67,Jfi)] [] ⟨⟨JCw,JoM⟩,trivial⟩ trivial Tryz.func47 ?_
 rintro a0 out H
 have G:=True.intro
 have Y:=xZ y_3 <| xZ y_5 <| xZ y_9 <| xZ y_25 <| xZ y_55 <| xZ y_70 <| xZ Tryz.results47 <| J5.eq_1
 simp only[Jdm]at H
 refine xS ?_
 refine xr ?_
 refine xr ?_
 refine xr ?_
 refine xr ?_
 refine JZ (Jcq a0) (fun s=>[(0,cS a0),(2,.c (.pt 1 0)),(3,.c (.sl 1 (List.map dU s.1) 2)),(4,.c (.sl 1 (List.map dI s.2.1) 3)),(5,cI s.2.2.1)]) (fun s=>[[kS s.2.2.2,.sl 1 [] 0]]) [5,3] H (xK ⟨[1],[0,0]⟩) ?_
 rintro n1 ⟨x1,x2,x3,x4⟩ o1 H hF1
 rw[Jcq]at H
 refine xS ?_
 refine xr ?_
 rcases xB Y G H with⟨p,H,F,G,q⟩|⟨p,H,F,G,q⟩
 ·refine xT ?_
  obtain⟨g,H⟩:=Jd H
  obtain⟨r1,hr1,H⟩:=Jj H
  have F:=xC Y (Jix (List.drop x3.toNat a0) r1 hr1)
  refine xR ?_
  rcases xB Y G H with⟨p,H,F,G,q⟩|⟨p,H,F,G,q⟩
  ·refine xT ?_
   obtain⟨g,H⟩:=Jd H
   obtain⟨r2,hr2,H⟩:=Jj H
   have F:=xC Y (Jix (List.drop x3.toNat a0) r2 hr2)
   refine xR ?_
   exact JA (JF H hF1) (xK ⟨[1],[2,3]⟩)
  refine xE0 ?_
  refine Jp (Ja2 a0 x1 x2 x3 x4) (fun s=>[(0,cS a0),(2,.c (.pt 1 0)),(3,.c (.sl 1 (List.map dU x1) 2)),(4,.c (.sl 1 (List.map dI x2) 3)),(5,cI x3),(22,cB s)]) (fun s=>[[kS x4,.sl 1 [] 0]]) [5,3] o1 ?_ ?_
  ·obtain⟨g,H⟩:=Jd H
   rcases xB Y G H with⟨p,H,F,G,q⟩|⟨p,H,F,G,q⟩
   ·rcases xB F G H with⟨p,H,F,G,q⟩|⟨p,H,F,G,q⟩
    ·obtain⟨g,H⟩:=Jd H
     refine xR ?_
     exact Jb H (xK ⟨[1],[2,3]⟩)
    refine xR ?_
    exact Jb H (xK ⟨[1],[2,3]⟩)
   refine xR ?_
   exact Jb H (xK ⟨[1],[2,3]⟩)
  rintro x5 H
  rw[Ja2]at H
  rcases xB Y G H with⟨p,H,F,G,q⟩|⟨p,H,F,G,q⟩
  ·refine xT ?_
   refine xr ?_
   exact JA (JF H hF1) (xK ⟨[1],[2,3]⟩)
  refine xE ?_
  obtain⟨g,H⟩:=Jd H
  obtain⟨g,H⟩:=Jd H
  have F:=xZ Y (JQ JDR [(a0.getD x3.toNat 0)])
  obtain⟨g,H⟩:=Jd H
  have F:=xZ F (JQ Joq [x3])
  refine xR ?_
  refine xr ?_
  exact JA (JF H hF1) (xK ⟨[1],[4,5]⟩)
 replace H:=Js H hF1
 refine xE ?_
 obtain⟨g,H⟩:=Jd H
 have F:=xZ Y (JQ Joq [(a0.length:Int)])
 replace H:=oI H
 refine xR ?_
 subst H
 exact xN
theorem Jtc(a0:List UInt8)(r:Spliced)(H:Jdm a0=some r):PC Jga [dS a0] (J5 r):=PF.c (a:=a0) H
noncomputable def Jas(a0:UInt8):Option Bool :=
 some (!eqI (a0.toNat:Int) 10)
noncomputable def JcV:PF:=PF.of (E1 dU) (fun a=>Jas a) dB
theorem JjB:JE Tryz.prog 69 JcV:=by
 refine xF mixed [] [] trivial trivial Tryz.func69 ?_
 rintro a0 out H
 have G:=True.intro
 have Y:=Tryz.results69
 simp only[Jas]at H
 refine xS ?_
 refine xr ?_
 replace H:=oI H
 refine xr ?_
 subst H
 exact xN
theorem Jke(a0:UInt8)(r:Bool)(H:Jas a0=some r):PC JcV [dU a0] (dB r):=PF.c (a:=a0) H
noncomputable def ZK(x1:Int):Bool→Option (Int ⊕ Int)
 | x2=>if x2=true then some (.inl (IntKind.i64.wrap (x1+1))) else inrO (some x1)
noncomputable def JbN(a1:List UInt8):Int→Option (Int ⊕ Int)
 | x1=>if(ltI x1 (a1.length:Int))=true then if(0:Int)≤x1∧x1.toNat<a1.length then(Jas (a1.getD x1.toNat 0)).bind fun r1=>ZK x1 r1 else none else ZK x1 false
noncomputable def JbZ(a0:Int)(a1:List UInt8)(a2:List Int)(a3:List UInt8)(a4 a5:Int)(a6:List Token):Option Int :=
 Jy (JbN a1) a0
def Jcf(a0:Int)(a1:List UInt8)(a2:List Int)(a3:List UInt8)(a4 a5:Int)(a6:List Token)(r:Int):GI :=
 ⟨[.c (.pt 1 0),cI a0,.c (.d (.v (.func (.func 69) #[] #[])))],[[kS a1,.d (.sl 1 (List.map dI a2)),kS a3,kI a4,kI a5,.sl 11 (List.map Ja a6) 2]],[44],.ret (cI r) [[kS a1,.d (.sl 1 (List.map dI a2)),kS a3,kI a4,kI a5,.sl 11 (List.map Ja a6) 2]] [44]⟩
def Jcm:GI→Prop:=Sg7 JbZ Jcf
theorem Jk8:∀ g,Jcm g→Jn Tryz.prog 68 g:=by
 rintro _ ⟨a0,a1,a2,a3,a4,a5,a6,r,H,rfl⟩
 refine xGn mixed [(69,JcV)] [] [] ⟨⟨JCk,JjB⟩,trivial⟩ trivial trivial Tryz.func68 _ ?_
 have G:=True.intro
 have Y:=xZ y_9 <| xZ y_70 <| xZ y_99 <| xZ Tryz.results68 <| xZ Jl.eq_1 <| xZ Ja.eq_1 <| xZ J5.eq_1 <| Jcf.eq_1
 dsimp only[Jcf]
 simp only[JbZ]at H
 refine xS ?_
 refine xr ?_
 refine JZ (JbN a1) (fun s=>[(0,.c (.pt 1 0)),(1,cI s),(2,.c (.d (.v (.func (.func 69) #[] #[]))))]) (fun s=>[[kS a1,.d (.sl 1 (List.map dI a2)),kS a3,kI a4,kI a5,.sl 11 (List.map Ja a6) 2]]) [44] H (xK ⟨[1],[2]⟩) ?_
 rintro n1 x1 o1 H hF1
 rw[JbN]at H
 refine Vi ?_
 refine Jp (ZK x1) (fun s=>[(0,.c (.pt 1 0)),(1,cI x1),(2,.c (.d (.v (.func (.func 69) #[] #[])))),(25,cB s)]) (fun s=>[[kS a1,.d (.sl 1 (List.map dI a2)),kS a3,kI a4,kI a5,.sl 11 (List.map Ja a6) 2]]) [44] o1 ?_ ?_
 ·rcases xB Y G H with⟨p,H,F,G,q⟩|⟨p,H,F,G,q⟩
  ·obtain⟨g,H⟩:=Jd H
   obtain⟨r1,hr1,H⟩:=Jj H
   have F:=xCf F (Jke (a1.getD x1.toNat 0) r1 hr1)
   refine xR ?_
   exact Jb H (xK ⟨[1],[2]⟩)
  refine xR ?_
  exact Jb H (xK ⟨[1],[2]⟩)
 rintro x2 H
 rw[ZK]at H
 rcases xB Y G H with⟨p,H,F,G,q⟩|⟨p,H,F,G,q⟩
 ·refine xT ?_
  refine xr ?_
  exact JA (JF H hF1) (xK ⟨[1],[2]⟩)
 replace H:=Js H hF1
 refine xE ?_
 replace H:=oI H
 refine xr ?_
 subst H
 refine xOr ?_
 refine qDf [] ?_
 exact xO ⟨[1],[2]⟩
theorem Jmh:Jc Tryz.prog 68∧(∀ g,Jcm g→Jn Tryz.prog 68 g)∧(true=true→∀ g,Jcm g→∃ val bs ts,g.out=.ret val bs ts) :=
 ⟨JpC,Jk8,fun _=>by rintro _ ⟨_,_,_,_,_,_,_,_,_,rfl⟩; exact⟨_,_,_,rfl⟩⟩
noncomputable def Vw:(Bool×Int)→Option Yr
 | (x4,x5)=>some (.inl (true,x4,x5))
noncomputable def ZQ(x3:Int):Bool→Option Yr
 | x8=>Vw (x8,IntKind.i64.wrap (x3+1))
noncomputable def ZC(a0:List UInt8)(x1 x2:Bool)(x3 x12:Int):Bool→Option Yq
 | x13=>if x13=true then some (.inl (IntKind.i64.wrap (x12+1))) else inrO (if(leI (a0.length:Int) (IntKind.i64.wrap (x12+1)))=true then inrO (some (x1,x2,false,x3)) else Vw (x2,IntKind.i64.wrap (x12+2)))
noncomputable def ZA(a0:List UInt8)(x1 x2:Bool)(x3:Int):Int→Option Yq
 | x12=>if(ltI (IntKind.i64.wrap (x12+1)) (a0.length:Int))=true then if(0:Int)≤x12∧x12≤(IntKind.i64.wrap (x12+2))∧(IntKind.i64.wrap (x12+2))≤(a0.length:Int) then ZC a0 x1 x2 x3 x12 (!eqS (List.take ((IntKind.i64.wrap (x12+2)).toNat-x12.toNat) (List.drop x12.toNat a0)) [42,47]) else none else ZC a0 x1 x2 x3 x12 false
noncomputable def Xp(a0:List UInt8)(x1 x2:Bool)(x3:Int):Bool→Option Yr
 | x11=>if x11=true then Jy (ZA a0 x1 x2 x3) (IntKind.i64.wrap (x3+2)) else inrO (some (x1,x2,true,x3))
noncomputable def Xc(a0:List UInt8)(a1:List Int)(a2:List UInt8)(a3:Int)(a5:List Token)(x1 x2:Bool)(x3:Int):YW→Option Yr
 | (x9,x10)=>if x10=true then(JbZ x3 a0 a1 a2 a3 x3 a5).bind fun r1=>Vw (x2,r1) else if(eqI (x9.toNat:Int) 47)=true then if(ltI (IntKind.i64.wrap (x3+1)) (a0.length:Int))=true then if(0:Int)≤(IntKind.i64.wrap (x3+1))∧(IntKind.i64.wrap (x3+1)).toNat<a0.length then Xp a0 x1 x2 x3 (eqI ((a0.getD ((IntKind.i64.wrap (x3+1)).toNat) 0).toNat:Int) 42) else none else Xp a0 x1 x2 x3 false else Xp a0 x1 x2 x3 false
noncomputable def KW(a0:List UInt8)(a1:List Int)(a2:List UInt8)(a3:Int)(a5:List Token)(x1 x2:Bool)(x3:Int):YW→Option Yr
 | (x6,x7)=>if x7=true then if x2=true then ZQ x3 true else ZQ x3 (eqI (x6.toNat:Int) 10) else if(eqI (x6.toNat:Int) 47)=true then if(ltI (IntKind.i64.wrap (x3+1)) (a0.length:Int))=true then if(0:Int)≤(IntKind.i64.wrap (x3+1))∧(IntKind.i64.wrap (x3+1)).toNat<a0.length then Xc a0 a1 a2 a3 a5 x1 x2 x3 (x6,eqI ((a0.getD ((IntKind.i64.wrap (x3+1)).toNat) 0).toNat:Int) 47) else none else Xc a0 a1 a2 a3 a5 x1 x2 x3 (x6,false) else Xc a0 a1 a2 a3 a5 x1 x2 x3 (x6,false)
noncomputable def KU(a0:List UInt8)(a1:List Int)(a2:List UInt8)(a3:Int)(a5:List Token):(Bool×Bool×Int)→Option Yr
 | (x1,x2,x3)=>if(ltI x3 (a0.length:Int))=true then if(0:Int)≤x3∧x3.toNat<a0.length then if(eqI ((a0.getD x3.toNat 0).toNat:Int) 32)=true then KW a0 a1 a2 a3 a5 x1 x2 x3 ((a0.getD x3.toNat 0),true) else if(eqI ((a0.getD x3.toNat 0).toNat:Int) 9)=true then KW a0 a1 a2 a3 a5 x1 x2 x3 ((a0.getD x3.toNat 0),true) else if(eqI ((a0.getD x3.toNat 0).toNat:Int) 10)=true then KW a0 a1 a2 a3 a5 x1 x2 x3 ((a0.getD x3.toNat 0),true) else KW a0 a1 a2 a3 a5 x1 x2 x3 ((a0.getD x3.toNat 0),eqI ((a0.getD x3.toNat 0).toNat:Int) 13) else none else inrO (some (x1,x2,true,x3))
noncomputable def Jdw(a0:List UInt8)(a1:List Int)(a2:List UInt8)(a3 a4:Int)(a5:List Token):Option YF :=
 Jy (KU a0 a1 a2 a3 a5) (false,false,a4)
def Jck(a0:List UInt8)(a1:List Int)(a2:List UInt8)(a3 a4:Int)(a5:List Token)(r:YF):GI :=
 ⟨[.c (.pt 1 0)],[[kS a0,.d (.sl 1 (List.map dI a1)),kS a2,kI a3,kI a4,.sl 11 (List.map Ja a5) 2]],[44],.ret (.tu [(false,[kB r.1]),(false,[kB r.2.1]),(false,[kB r.2.2.1])]) [[kS a0,.d (.sl 1 (List.map dI a1)),kS a2,kI a3,kI r.2.2.2,.sl 11 (List.map Ja a5) 2]] [44]⟩
def Jch:GI→Prop:=Sg6 Jdw Jck
theorem Jlt:∀ g,Jch g→Jn Tryz.prog 48 g:=by
 rintro _ ⟨a0,a1,a2,a3,a4,a5,r,H,rfl⟩
 refine xGn mixed [] [(68,true,Jcm)] [] trivial ⟨Jmh,trivial⟩ trivial Tryz.func48 _ ?_
 have G:=True.intro
 have Y:=xZ y_3 <| xZ y_9 <| xZ y_70 <| xZ y_99 <| xZ Tryz.results48 <| xZ Jl.eq_1 <| xZ Ja.eq_1 <| xZ J5.eq_1 <| xZ Jcf.eq_1 <| Jck.eq_1
 dsimp only[Jck]
 simp only[Jdw]at H
 refine xS ?_
 refine xr ?_
 refine xr ?_
 refine JZ (KU a0 a1 a2 a3 a5) (fun s=>[(0,.c (.pt 1 0)),(2,cB s.1),(3,cB s.2.1),(5,cS a0)]) (fun s=>[[kS a0,.d (.sl 1 (List.map dI a1)),kS a2,kI a3,kI s.2.2,.sl 11 (List.map Ja a5) 2]]) [44] H (xK ⟨[1],[2]⟩) ?_
 rintro n1 ⟨x1,x2,x3⟩ o1 H hF1
 rw[KU]at H
 refine xS ?_
 refine xr ?_
 rcases xB Y G H with⟨p,H,F,G,q⟩|⟨p,H,F,G,q⟩
 ·refine xT0 ?_
  refine Jbh ?_
  refine Jm ?_
  refine Ja3 ?_
  refine Jp Vw (fun s=>[(0,.c (.pt 1 0)),(3,cB s.1),(5,cS a0)]) (fun s=>[[kS a0,.d (.sl 1 (List.map dI a1)),kS a2,kI a3,kI s.2,.sl 11 (List.map Ja a5) 2]]) [44] o1 ?_ ?_
  ·refine xS ?_
   obtain⟨g,H⟩:=Jd H
   refine xr0 ?_
   refine Jm ?_
   refine Ja3 ?_
   refine Jp (KW a0 a1 a2 a3 a5 x1 x2 x3) (fun s=>[(0,.c (.pt 1 0)),(2,cB x1),(3,cB x2),(5,cS a0),(6,.c (.d (.v (.int .u8 (s.1.toNat:Int))))),(28,cB s.2)]) (fun s=>[[kS a0,.d (.sl 1 (List.map dI a1)),kS a2,kI a3,kI x3,.sl 11 (List.map Ja a5) 2]]) [44] o1 ?_ ?_
   ·rcases xB Y G H with⟨p,H,F,G,q⟩|⟨p,H,F,G,q⟩
    ·refine xR ?_
     exact Jb H (xK ⟨[1],[2]⟩)
    rcases xB F G H with⟨p,H,F,G,q⟩|⟨p,H,F,G,q⟩
    ·refine xR ?_
     exact Jb H (xK ⟨[1],[2]⟩)
    rcases xB F G H with⟨p,H,F,G,q⟩|⟨p,H,F,G,q⟩
    ·refine xR ?_
     exact Jb H (xK ⟨[1],[2]⟩)
    refine xR ?_
    exact Jb H (xK ⟨[1],[2]⟩)
   rintro ⟨x6,x7⟩ H
   rw[KW]at H
   rcases xB Y G H with⟨p,H,F,G,q⟩|⟨p,H,F,G,q⟩
   ·refine xT0 ?_
    refine Jp (ZQ x3) (fun s=>[(0,.c (.pt 1 0)),(3,cB s),(5,cS a0)]) (fun s=>[[kS a0,.d (.sl 1 (List.map dI a1)),kS a2,kI a3,kI x3,.sl 11 (List.map Ja a5) 2]]) [44] o1 ?_ ?_
    ·rcases xB Y G H with⟨p,H,F,G,q⟩|⟨p,H,F,G,q⟩
     ·refine xR ?_
      exact Jb H (xK ⟨[1],[2]⟩)
     refine xR ?_
     exact Jb H (xK ⟨[1],[2]⟩)
    rintro x8 H
    rw[ZQ]at H
    refine xr ?_
    exact Jb H (xK ⟨[1],[2]⟩)
   refine xE0 ?_
   refine Jp (Xc a0 a1 a2 a3 a5 x1 x2 x3) (fun s=>[(0,.c (.pt 1 0)),(2,cB x1),(3,cB x2),(5,cS a0),(6,.c (.d (.v (.int .u8 (s.1.toNat:Int))))),(55,cB s.2)]) (fun s=>[[kS a0,.d (.sl 1 (List.map dI a1)),kS a2,kI a3,kI x3,.sl 11 (List.map Ja a5) 2]]) [44] o1 ?_ ?_
   ·rcases xB Y G H with⟨p,H,F,G,q⟩|⟨p,H,F,G,q⟩
    ·rcases xB F G H with⟨p,H,F,G,q⟩|⟨p,H,F,G,q⟩
     ·obtain⟨g,H⟩:=Jd H
      refine xR ?_
      exact Jb H (xK ⟨[1],[2]⟩)
     refine xR ?_
     exact Jb H (xK ⟨[1],[2]⟩)
    refine xR ?_
    exact Jb H (xK ⟨[1],[2]⟩)
   rintro ⟨x9,x10⟩ H
   rw[Xc]at H
   rcases xB Y G H with⟨p,H,F,G,q⟩|⟨p,H,F,G,q⟩
   ·refine xT ?_
    obtain⟨r1,hr1,H⟩:=Jj H
    have F:=Y
    refine xQ ?_
    refine xs 6 ?_
    refine xc ⟨[1],[2]⟩ (tabG 0 (cg7 hr1)) ?_
    refine xs 3 ?_
    refine xl ?_
    refine xS ?_
    exact Jb H (xK ⟨[1],[4]⟩)
   refine xE0 ?_
   refine Jp (Xp a0 x1 x2 x3) (fun s=>[(0,.c (.pt 1 0)),(2,cB x1),(3,cB x2),(5,cS a0),(87,cB s)]) (fun s=>[[kS a0,.d (.sl 1 (List.map dI a1)),kS a2,kI a3,kI x3,.sl 11 (List.map Ja a5) 2]]) [44] o1 ?_ ?_
   ·rcases xB Y G H with⟨p,H,F,G,q⟩|⟨p,H,F,G,q⟩
    ·rcases xB F G H with⟨p,H,F,G,q⟩|⟨p,H,F,G,q⟩
     ·obtain⟨g,H⟩:=Jd H
      refine xR ?_
      exact Jb H (xK ⟨[1],[2]⟩)
     refine xR ?_
     exact Jb H (xK ⟨[1],[2]⟩)
    refine xR ?_
    exact Jb H (xK ⟨[1],[2]⟩)
   rintro x11 H
   rw[Xp]at H
   rcases xB Y G H with⟨p,H,F,G,q⟩|⟨p,H,F,G,q⟩
   ·refine xT ?_
    refine xr ?_
    refine JZ (ZA a0 x1 x2 x3) (fun s=>[(0,.c (.pt 1 0)),(2,cB x1),(3,cB x2),(5,cS a0),(7,cI s)]) (fun s=>[[kS a0,.d (.sl 1 (List.map dI a1)),kS a2,kI a3,kI x3,.sl 11 (List.map Ja a5) 2]]) [44] H (xK ⟨[1],[2]⟩) ?_
    rintro n2 x12 o2 H hF2
    rw[ZA]at H
    refine Vi ?_
    refine Jp (ZC a0 x1 x2 x3 x12) (fun s=>[(0,.c (.pt 1 0)),(2,cB x1),(3,cB x2),(5,cS a0),(7,cI x12),(127,cB s)]) (fun s=>[[kS a0,.d (.sl 1 (List.map dI a1)),kS a2,kI a3,kI x3,.sl 11 (List.map Ja a5) 2]]) [44] o2 ?_ ?_
    ·rcases xB Y G H with⟨p,H,F,G,q⟩|⟨p,H,F,G,q⟩
     ·obtain⟨g,H⟩:=Jd H
      refine xR ?_
      exact Jb H (xK ⟨[1],[2]⟩)
     refine xR ?_
     exact Jb H (xK ⟨[1],[2]⟩)
    rintro x13 H
    rw[ZC]at H
    rcases xB Y G H with⟨p,H,F,G,q⟩|⟨p,H,F,G,q⟩
    ·refine xT ?_
     refine xr ?_
     exact JA (JF H hF2) (xK ⟨[1],[2]⟩)
    replace H:=Js H hF2
    refine xE ?_
    refine xr ?_
    rcases xB Y G H with⟨p,H,F,G,q⟩|⟨p,H,F,G,q⟩
    ·refine xT ?_
     replace H:=Js H hF1
     replace H:=oI H
     refine xr ?_
     subst H
     refine xOr ?_
     refine qDf [] ?_
     exact xO ⟨[1],[2]⟩
    refine xE ?_
    refine xr ?_
    exact Jb H (xK ⟨[1],[2]⟩)
   refine xE ?_
   replace H:=Js H hF1
   replace H:=oI H
   refine xr ?_
   subst H
   refine xOr ?_
   refine qDf [] ?_
   exact xO ⟨[1],[2]⟩
  rintro ⟨x4,x5⟩ H
  rw[Vw]at H
  refine xr ?_
  exact JA (JF H hF1) (xK ⟨[1],[2]⟩)
 replace H:=Js H hF1
 refine xE ?_
 replace H:=oI H
 refine xr ?_
 subst H
 refine xOr ?_
 refine qDf [] ?_
 exact xO ⟨[1],[2]⟩
theorem Jmp:Jc Tryz.prog 48∧(∀ g,Jch g→Jn Tryz.prog 48 g)∧(true=true→∀ g,Jch g→∃ val bs ts,g.out=.ret val bs ts) :=
 ⟨JCu,Jlt,fun _=>by rintro _ ⟨_,_,_,_,_,_,_,_,rfl⟩; exact⟨_,_,_,rfl⟩⟩
noncomputable def JbL(a0:Spliced)(a1:Int):Bool→Option Int
 | x1=>if x1=true then some (-1) else if(0:Int)≤a1∧a1.toNat<a0.At.length then some (a0.At.getD a1.toNat default) else none
noncomputable def Xy(a0:Spliced)(a1:Int):Option Int :=
 if(ltI a1 0)=true then JbL a0 a1 true else JbL a0 a1 (leI (a0.At.length:Int) a1)
noncomputable def Jfl:PF:=PF.of (E2 J5 dI) (fun a=>Xy a.1 a.2) dI
theorem Jnr:JE Tryz.prog 49 Jfl:=by
 refine xF mixed [] [] trivial trivial Tryz.func49 ?_
 rintro ⟨a0,a1⟩ out H
 have G:=True.intro
 have Y:=xZ y_3 <| xZ y_25 <| xZ y_70 <| xZ Tryz.results49 <| J5.eq_1
 simp only[Xy]at H
 refine xS ?_
 refine xr0 ?_
 refine Jm ?_
 refine Vi ?_
 refine Jp (JbL a0 a1) (fun s=>[(1,cI a1),(2,.c (.pt 1 0)),(13,cB s)]) (fun s=>[[kS a0.Text,.d (.sl 1 (List.map dI a0.At))]]) [] out ?_ ?_
 ·rcases xB Y G H with⟨p,H,F,G,q⟩|⟨p,H,F,G,q⟩
  ·refine xR ?_
   exact Jb H (xK ⟨[1],[]⟩)
  refine xR ?_
  exact Jb H (xK ⟨[1],[]⟩)
 rintro x1 H
 rw[JbL]at H
 rcases xB Y G H with⟨p,H,F,G,q⟩|⟨p,H,F,G,q⟩
 ·refine xT ?_
  replace H:=oI H
  refine xr ?_
  subst H
  exact xN
 refine xE ?_
 obtain⟨g,H⟩:=Jd H
 have F:=xZ Y (Ji dI a0.At a1.toNat default default (by omega))
 replace H:=oI H
 refine xR ?_
 subst H
 exact xN
theorem Jgc(a0:Spliced)(a1 r:Int)(H:Xy a0 a1=some r):PC Jfl [J5 a0,dI a1] (dI r):=PF.c (a:=(a0,a1)) H
noncomputable def VA:Bool→Option Bool
 | x1=>some x1
noncomputable def Jb5(a0:UInt8):Option Bool :=
 if(leI 97 (a0.toNat:Int))=true then if(leI (a0.toNat:Int) 122)=true then VA true else if(leI 65 (a0.toNat:Int))=true then if(leI (a0.toNat:Int) 90)=true then VA true else VA (eqI (a0.toNat:Int) 95) else VA (eqI (a0.toNat:Int) 95) else if(leI 65 (a0.toNat:Int))=true then if(leI (a0.toNat:Int) 90)=true then VA true else VA (eqI (a0.toNat:Int) 95) else VA (eqI (a0.toNat:Int) 95)
noncomputable def Jc6:PF:=PF.of (E1 dU) (fun a=>Jb5 a) dB
theorem JgN:JE Tryz.prog 70 Jc6:=by
 refine xF mixed [] [] trivial trivial Tryz.func70 ?_
 rintro a0 out H
 have G:=True.intro
 have Y:=Tryz.results70
 simp only[Jb5]at H
 refine xS ?_
 refine xr0 ?_
 refine Jm ?_
 refine Jp VA (fun s=>[(2,cB s)]) (fun s=>[]) [] out ?_ ?_
 ·rcases xB Y G H with⟨p,H,F,G,q⟩|⟨p,H,F,G,q⟩
  ·rcases xB F G H with⟨p,H,F,G,q⟩|⟨p,H,F,G,q⟩
   ·refine xR ?_
    exact Jb H (xK ⟨[],[]⟩)
   rcases xB F G H with⟨p,H,F,G,q⟩|⟨p,H,F,G,q⟩
   ·rcases xB F G H with⟨p,H,F,G,q⟩|⟨p,H,F,G,q⟩
    ·refine xR ?_
     exact Jb H (xK ⟨[],[]⟩)
    refine xR ?_
    exact Jb H (xK ⟨[],[]⟩)
   refine xR ?_
   exact Jb H (xK ⟨[],[]⟩)
  rcases xB F G H with⟨p,H,F,G,q⟩|⟨p,H,F,G,q⟩
  ·rcases xB F G H with⟨p,H,F,G,q⟩|⟨p,H,F,G,q⟩
   ·refine xR ?_
    exact Jb H (xK ⟨[],[]⟩)
   refine xR ?_
   exact Jb H (xK ⟨[],[]⟩)
  refine xR ?_
  exact Jb H (xK ⟨[],[]⟩)
 rintro x1 H
 rw[VA]at H
 replace H:=oI H
 refine xS ?_
 subst H
 exact xN
theorem JhD(a0:UInt8)(r:Bool)(H:Jb5 a0=some r):PC Jc6 [dU a0] (dB r):=PF.c (a:=a0) H
noncomputable def JdC:Bool→Option Bool
 | x1=>some x1
noncomputable def JbO(a0:UInt8):Option Bool :=
 if(leI 48 (a0.toNat:Int))=true then JdC (leI (a0.toNat:Int) 57) else JdC false
noncomputable def JdO:PF:=PF.of (E1 dU) (fun a=>JbO a) dB
theorem Jhl:JE Tryz.prog 72 JdO:=by
 refine xF mixed [] [] trivial trivial Tryz.func72 ?_
 rintro a0 out H
 have G:=True.intro
 have Y:=Tryz.results72
 simp only[JbO]at H
 refine xS ?_
 refine xr0 ?_
 refine Jm ?_
 refine Jp JdC (fun s=>[(2,cB s)]) (fun s=>[]) [] out ?_ ?_
 ·rcases xB Y G H with⟨p,H,F,G,q⟩|⟨p,H,F,G,q⟩
  ·refine xR ?_
   exact Jb H (xK ⟨[],[]⟩)
  refine xR ?_
  exact Jb H (xK ⟨[],[]⟩)
 rintro x1 H
 rw[JdC]at H
 replace H:=oI H
 refine xS ?_
 subst H
 exact xN
theorem Jgi(a0:UInt8)(r:Bool)(H:JbO a0=some r):PC JdO [dU a0] (dB r):=PF.c (a:=a0) H
noncomputable def ZH:Bool→Option Bool
 | x1=>some x1
noncomputable def Jac(a0:UInt8):Option Bool :=
 (Jb5 a0).bind fun r1=>if r1=true then ZH true else(JbO a0).bind fun r2=>ZH r2
noncomputable def JdQ:PF:=PF.of (E1 dU) (fun a=>Jac a) dB
theorem JlN:JE Tryz.prog 71 JdQ:=by
 refine xF mixed [(70,Jc6),(72,JdO)] [] ⟨⟨Jpv,JgN⟩,⟨Jpb,Jhl⟩,trivial⟩ trivial Tryz.func71 ?_
 rintro a0 out H
 have G:=True.intro
 have Y:=Tryz.results71
 simp only[Jac]at H
 refine xS ?_
 refine xr0 ?_
 refine Jm ?_
 refine Jp ZH (fun s=>[(2,cB s)]) (fun s=>[]) [] out ?_ ?_
 ·obtain⟨r1,hr1,H⟩:=Jj H
  have F:=xC Y (JhD a0 r1 hr1)
  rcases xB F G H with⟨p,H,F,G,q⟩|⟨p,H,F,G,q⟩
  ·refine xR ?_
   exact Jb H (xK ⟨[],[]⟩)
  obtain⟨r2,hr2,H⟩:=Jj H
  have F:=xCf F (Jgi a0 r2 hr2)
  refine xR ?_
  exact Jb H (xK ⟨[],[]⟩)
 rintro x1 H
 rw[ZH]at H
 replace H:=oI H
 refine xS ?_
 subst H
 exact xN
theorem Jmn(a0:UInt8)(r:Bool)(H:Jac a0=some r):PC JdQ [dU a0] (dB r):=PF.c (a:=a0) H
noncomputable def Xm(x1:Int):Bool→Option (Int ⊕ Int)
 | x2=>if x2=true then some (.inl (IntKind.i64.wrap (x1+1))) else inrO (some x1)
noncomputable def Z4(a1:List UInt8):Int→Option (Int ⊕ Int)
 | x1=>if(ltI x1 (a1.length:Int))=true then if(0:Int)≤x1∧x1.toNat<a1.length then(Jac (a1.getD x1.toNat 0)).bind fun r1=>Xm x1 r1 else none else Xm x1 false
noncomputable def ZG(a0:Int)(a1:List UInt8)(a2:List Int)(a3:List UInt8)(a4 a5:Int)(a6:List Token):Option Int :=
 Jy (Z4 a1) a0
def JaO(a0:Int)(a1:List UInt8)(a2:List Int)(a3:List UInt8)(a4 a5:Int)(a6:List Token)(r:Int):GI :=
 ⟨[.c (.pt 1 0),cI a0,.c (.d (.v (.func (.func 71) #[] #[])))],[[kS a1,.d (.sl 1 (List.map dI a2)),kS a3,kI a4,kI a5,.sl 11 (List.map Ja a6) 2]],[44],.ret (cI r) [[kS a1,.d (.sl 1 (List.map dI a2)),kS a3,kI a4,kI a5,.sl 11 (List.map Ja a6) 2]] [44]⟩
def Jaw:GI→Prop:=Sg7 ZG JaO
theorem JiI:∀ g,Jaw g→Jn Tryz.prog 68 g:=by
 rintro _ ⟨a0,a1,a2,a3,a4,a5,a6,r,H,rfl⟩
 refine xGn mixed [(71,JdQ)] [] [] ⟨⟨JCL,JlN⟩,trivial⟩ trivial trivial Tryz.func68 _ ?_
 have G:=True.intro
 have Y:=xZ y_9 <| xZ y_70 <| xZ y_99 <| xZ Tryz.results68 <| xZ Jl.eq_1 <| xZ Ja.eq_1 <| xZ J5.eq_1 <| JaO.eq_1
 dsimp only[JaO]
 simp only[ZG]at H
 refine xS ?_
 refine xr ?_
 refine JZ (Z4 a1) (fun s=>[(0,.c (.pt 1 0)),(1,cI s),(2,.c (.d (.v (.func (.func 71) #[] #[]))))]) (fun s=>[[kS a1,.d (.sl 1 (List.map dI a2)),kS a3,kI a4,kI a5,.sl 11 (List.map Ja a6) 2]]) [44] H (xK ⟨[1],[2]⟩) ?_
 rintro n1 x1 o1 H hF1
 rw[Z4]at H
 refine Vi ?_
 refine Jp (Xm x1) (fun s=>[(0,.c (.pt 1 0)),(1,cI x1),(2,.c (.d (.v (.func (.func 71) #[] #[])))),(25,cB s)]) (fun s=>[[kS a1,.d (.sl 1 (List.map dI a2)),kS a3,kI a4,kI a5,.sl 11 (List.map Ja a6) 2]]) [44] o1 ?_ ?_
 ·rcases xB Y G H with⟨p,H,F,G,q⟩|⟨p,H,F,G,q⟩
  ·obtain⟨g,H⟩:=Jd H
   obtain⟨r1,hr1,H⟩:=Jj H
   have F:=xCf F (Jmn (a1.getD x1.toNat 0) r1 hr1)
   refine xR ?_
   exact Jb H (xK ⟨[1],[2]⟩)
  refine xR ?_
  exact Jb H (xK ⟨[1],[2]⟩)
 rintro x2 H
 rw[Xm]at H
 rcases xB Y G H with⟨p,H,F,G,q⟩|⟨p,H,F,G,q⟩
 ·refine xT ?_
  refine xr ?_
  exact JA (JF H hF1) (xK ⟨[1],[2]⟩)
 replace H:=Js H hF1
 refine xE ?_
 replace H:=oI H
 refine xr ?_
 subst H
 refine xOr ?_
 refine qDf [] ?_
 exact xO ⟨[1],[2]⟩
theorem Jjf:Jc Tryz.prog 68∧(∀ g,Jaw g→Jn Tryz.prog 68 g)∧(true=true→∀ g,Jaw g→∃ val bs ts,g.out=.ret val bs ts) :=
 ⟨JpC,JiI,fun _=>by rintro _ ⟨_,_,_,_,_,_,_,_,_,rfl⟩; exact⟨_,_,_,rfl⟩⟩
noncomputable def Ze(x1:Int):Unit→Option (Int ⊕ Int)
 | ()=>some (.inl (IntKind.i64.wrap (x1+1)))
noncomputable def VM(x1:Int):Bool→Option (Int ⊕ Int)
 | x4=>if x4=true then inrO (some x1) else Ze x1 ()
noncomputable def J9(x1:Int):YW→Option (Int ⊕ Int)
 | (x2,x3)=>if x3=true then Ze x1 () else if(!eqI (x2.toNat:Int) 46)=true then(Jb5 x2).bind fun r1=>if(!r1)=true then(JbO x2).bind fun r2=>VM x1 (!r2) else VM x1 false else VM x1 false
noncomputable def Zj(a0:List UInt8)(a4:Int):Int→Option (Int ⊕ Int)
 | x1=>if(ltI x1 (a0.length:Int))=true then if(0:Int)≤x1∧x1.toNat<a0.length then if(eqI ((a0.getD x1.toNat 0).toNat:Int) 43)=true then if(ltI a4 x1)=true then if(0:Int)≤(IntKind.i64.wrap (x1-1))∧(IntKind.i64.wrap (x1-1)).toNat<a0.length then if(eqI ((a0.getD ((IntKind.i64.wrap (x1-1)).toNat) 0).toNat:Int) 101)=true then J9 x1 ((a0.getD x1.toNat 0),true) else if(0:Int)≤(IntKind.i64.wrap (x1-1))∧(IntKind.i64.wrap (x1-1)).toNat<a0.length then J9 x1 ((a0.getD x1.toNat 0),eqI ((a0.getD ((IntKind.i64.wrap (x1-1)).toNat) 0).toNat:Int) 69) else none else none else J9 x1 ((a0.getD x1.toNat 0),false) else if(eqI ((a0.getD x1.toNat 0).toNat:Int) 45)=true then if(ltI a4 x1)=true then if(0:Int)≤(IntKind.i64.wrap (x1-1))∧(IntKind.i64.wrap (x1-1)).toNat<a0.length then if(eqI ((a0.getD ((IntKind.i64.wrap (x1-1)).toNat) 0).toNat:Int) 101)=true then J9 x1 ((a0.getD x1.toNat 0),true) else if(0:Int)≤(IntKind.i64.wrap (x1-1))∧(IntKind.i64.wrap (x1-1)).toNat<a0.length then J9 x1 ((a0.getD x1.toNat 0),eqI ((a0.getD ((IntKind.i64.wrap (x1-1)).toNat) 0).toNat:Int) 69) else none else none else J9 x1 ((a0.getD x1.toNat 0),false) else J9 x1 ((a0.getD x1.toNat 0),false) else none else inrO (some x1)
noncomputable def Jbk(a0:List UInt8)(a1:List Int)(a2:List UInt8)(a3 a4:Int)(a5:List Token):Option Int :=
 Jy (Zj a0 a4) a4
def Jb2(a0:List UInt8)(a1:List Int)(a2:List UInt8)(a3 a4:Int)(a5:List Token)(r:Int):GI :=
 ⟨[.c (.pt 1 0)],[[kS a0,.d (.sl 1 (List.map dI a1)),kS a2,kI a3,kI a4,.sl 11 (List.map Ja a5) 2]],[44],.ret (cI r) [[kS a0,.d (.sl 1 (List.map dI a1)),kS a2,kI a3,kI a4,.sl 11 (List.map Ja a5) 2]] [44]⟩
def JbM:GI→Prop:=Sg6 Jbk Jb2
theorem Jko:∀ g,JbM g→Jn Tryz.prog 73 g:=by
 rintro _ ⟨a0,a1,a2,a3,a4,a5,r,H,rfl⟩
 refine xGn mixed [(70,Jc6),(72,JdO)] [] [] ⟨⟨Jpv,JgN⟩,⟨Jpb,Jhl⟩,trivial⟩ trivial trivial Tryz.func73 _ ?_
 have G:=True.intro
 have Y:=xZ y_3 <| xZ y_9 <| xZ y_70 <| xZ y_99 <| xZ Tryz.results73 <| xZ Jl.eq_1 <| xZ Ja.eq_1 <| xZ J5.eq_1 <| Jb2.eq_1
 dsimp only[Jb2]
 simp only[Jbk]at H
 refine xS ?_
 refine xr ?_
 refine xr ?_
 refine xr ?_
 refine JZ (Zj a0 a4) (fun s=>[(0,.c (.pt 1 0)),(3,cS a0),(4,cI s)]) (fun s=>[[kS a0,.d (.sl 1 (List.map dI a1)),kS a2,kI a3,kI a4,.sl 11 (List.map Ja a5) 2]]) [44] H (xK ⟨[1],[2]⟩) ?_
 rintro n1 x1 o1 H hF1
 rw[Zj]at H
 refine xS ?_
 refine xr ?_
 rcases xB Y G H with⟨p,H,F,G,q⟩|⟨p,H,F,G,q⟩
 ·refine xT0 ?_
  refine Jbh ?_
  refine Jm ?_
  refine Ja3 ?_
  refine Jp (Ze x1) (fun s=>[(0,.c (.pt 1 0)),(3,cS a0),(4,cI x1)]) (fun s=>[[kS a0,.d (.sl 1 (List.map dI a1)),kS a2,kI a3,kI a4,.sl 11 (List.map Ja a5) 2]]) [44] o1 ?_ ?_
  ·refine xS ?_
   obtain⟨g,H⟩:=Jd H
   refine xr0 ?_
   refine Jm ?_
   refine Ja3 ?_
   refine Jp (J9 x1) (fun s=>[(0,.c (.pt 1 0)),(3,cS a0),(4,cI x1),(5,.c (.d (.v (.int .u8 (s.1.toNat:Int))))),(22,cB s.2)]) (fun s=>[[kS a0,.d (.sl 1 (List.map dI a1)),kS a2,kI a3,kI a4,.sl 11 (List.map Ja a5) 2]]) [44] o1 ?_ ?_
   ·rcases xB Y G H with⟨p,H,F,G,q⟩|⟨p,H,F,G,q⟩
    ·rcases xB F G H with⟨p,H,F,G,q⟩|⟨p,H,F,G,q⟩
     ·obtain⟨g,H⟩:=Jd H
      rcases xB F G H with⟨p,H,F,G,q⟩|⟨p,H,F,G,q⟩
      ·refine xR ?_
       exact Jb H (xK ⟨[1],[2]⟩)
      obtain⟨g,H⟩:=Jd H
      refine xR ?_
      exact Jb H (xK ⟨[1],[2]⟩)
     refine xR ?_
     exact Jb H (xK ⟨[1],[2]⟩)
    rcases xB F G H with⟨p,H,F,G,q⟩|⟨p,H,F,G,q⟩
    ·rcases xB F G H with⟨p,H,F,G,q⟩|⟨p,H,F,G,q⟩
     ·obtain⟨g,H⟩:=Jd H
      rcases xB F G H with⟨p,H,F,G,q⟩|⟨p,H,F,G,q⟩
      ·refine xR ?_
       exact Jb H (xK ⟨[1],[2]⟩)
      obtain⟨g,H⟩:=Jd H
      refine xR ?_
      exact Jb H (xK ⟨[1],[2]⟩)
     refine xR ?_
     exact Jb H (xK ⟨[1],[2]⟩)
    refine xR ?_
    exact Jb H (xK ⟨[1],[2]⟩)
   rintro ⟨x2,x3⟩ H
   rw[J9]at H
   rcases xB Y G H with⟨p,H,F,G,q⟩|⟨p,H,F,G,q⟩
   ·refine xT ?_
    exact Jb H (xK ⟨[1],[2]⟩)
   refine xE0 ?_
   refine Jp (VM x1) (fun s=>[(0,.c (.pt 1 0)),(3,cS a0),(4,cI x1),(51,cB s)]) (fun s=>[[kS a0,.d (.sl 1 (List.map dI a1)),kS a2,kI a3,kI a4,.sl 11 (List.map Ja a5) 2]]) [44] o1 ?_ ?_
   ·rcases xB Y G H with⟨p,H,F,G,q⟩|⟨p,H,F,G,q⟩
    ·obtain⟨r1,hr1,H⟩:=Jj H
     have F:=xCf F (JhD x2 r1 hr1)
     rcases xB F G H with⟨p,H,F,G,q⟩|⟨p,H,F,G,q⟩
     ·obtain⟨r2,hr2,H⟩:=Jj H
      have F:=xCf F (Jgi x2 r2 hr2)
      refine xR ?_
      exact Jb H (xK ⟨[1],[2]⟩)
     refine xR ?_
     exact Jb H (xK ⟨[1],[2]⟩)
    refine xR ?_
    exact Jb H (xK ⟨[1],[2]⟩)
   rintro x4 H
   rw[VM]at H
   rcases xB Y G H with⟨p,H,F,G,q⟩|⟨p,H,F,G,q⟩
   ·refine xT ?_
    replace H:=Js H hF1
    replace H:=oI H
    refine xr ?_
    subst H
    refine xOr ?_
    refine qDf [] ?_
    exact xO ⟨[1],[2]⟩
   refine xE ?_
   exact Jb H (xK ⟨[1],[2]⟩)
  rintro ⟨⟩ H
  rw[Ze]at H
  refine xr ?_
  exact JA (JF H hF1) (xK ⟨[1],[2]⟩)
 replace H:=Js H hF1
 refine xE ?_
 replace H:=oI H
 refine xr ?_
 subst H
 refine xOr ?_
 refine qDf [] ?_
 exact xO ⟨[1],[2]⟩
theorem Jlw:Jc Tryz.prog 73∧(∀ g,JbM g→Jn Tryz.prog 73 g)∧(true=true→∀ g,JbM g→∃ val bs ts,g.out=.ret val bs ts) :=
 ⟨JCQ,Jko,fun _=>by rintro _ ⟨_,_,_,_,_,_,_,_,rfl⟩; exact⟨_,_,_,rfl⟩⟩
noncomputable def VL:(UInt8×Int)→Option YK
 | (x5,x6)=>some (.inl (x5,IntKind.i64.wrap (x6+1)))
noncomputable def Za(x2:Int):YW→Option YK
 | (x7,x8)=>if x8=true then VL (x7,IntKind.i64.wrap (x2+1)) else VL (x7,x2)
noncomputable def Zi(a1:List UInt8)(x2:Int):YW→Option YK
 | (x3,x4)=>if x4=true then if(0:Int)≤x2∧x2.toNat<a1.length then if(eqI ((a1.getD x2.toNat 0).toNat:Int) (x3.toNat:Int))=true then inrO (some (IntKind.i64.wrap (x2+1))) else if(eqI ((a1.getD x2.toNat 0).toNat:Int) 92)=true then if(ltI (IntKind.i64.wrap (x2+1)) (a1.length:Int))=true then if(0:Int)≤(IntKind.i64.wrap (x2+1))∧(IntKind.i64.wrap (x2+1)).toNat<a1.length then Za x2 (x3,!eqI ((a1.getD ((IntKind.i64.wrap (x2+1)).toNat) 0).toNat:Int) 10) else none else Za x2 (x3,false) else VL (x3,x2) else none else inrO (some (-1))
noncomputable def Zf(a1:List UInt8):(UInt8×Int)→Option YK
 | (x1,x2)=>if(ltI x2 (a1.length:Int))=true then if(0:Int)≤x2∧x2.toNat<a1.length then Zi a1 x2 (x1,!eqI ((a1.getD x2.toNat 0).toNat:Int) 10) else none else Zi a1 x2 (x1,false)
noncomputable def Zp(a0:UInt8)(a1:List UInt8)(a2:List Int)(a3:List UInt8)(a4 a5:Int)(a6:List Token):Option Int :=
 Jy (Zf a1) (a0,IntKind.i64.wrap (a5+1))
def JbW(a0:UInt8)(a1:List UInt8)(a2:List Int)(a3:List UInt8)(a4 a5:Int)(a6:List Token)(r:Int):GI :=
 ⟨[.c (.pt 1 0),.c (.d (.v (.int .u8 (a0.toNat:Int))))],[[kS a1,.d (.sl 1 (List.map dI a2)),kS a3,kI a4,kI a5,.sl 11 (List.map Ja a6) 2]],[44],.ret (cI r) [[kS a1,.d (.sl 1 (List.map dI a2)),kS a3,kI a4,kI a5,.sl 11 (List.map Ja a6) 2]] [44]⟩
def Jb3:GI→Prop:=Sg7 Zp JbW
theorem Jkj:∀ g,Jb3 g→Jn Tryz.prog 74 g:=by
 rintro _ ⟨a0,a1,a2,a3,a4,a5,a6,r,H,rfl⟩
 refine xGn mixed [] [] [] trivial trivial trivial Tryz.func74 _ ?_
 have G:=True.intro
 have Y:=xZ y_3 <| xZ y_9 <| xZ y_70 <| xZ y_99 <| xZ Tryz.results74 <| xZ Jl.eq_1 <| xZ Ja.eq_1 <| xZ J5.eq_1 <| JbW.eq_1
 dsimp only[JbW]
 simp only[Zp]at H
 refine xS ?_
 refine xr ?_
 refine xr ?_
 refine xr ?_
 refine JZ (Zf a1) (fun s=>[(1,.c (.d (.v (.int .u8 (s.1.toNat:Int))))),(5,cS a1),(6,cI s.2)]) (fun s=>[[kS a1,.d (.sl 1 (List.map dI a2)),kS a3,kI a4,kI a5,.sl 11 (List.map Ja a6) 2]]) [44] H (xK ⟨[1],[2]⟩) ?_
 rintro n1 ⟨x1,x2⟩ o1 H hF1
 rw[Zf]at H
 refine Vi ?_
 refine Jp (Zi a1 x2) (fun s=>[(1,.c (.d (.v (.int .u8 (s.1.toNat:Int))))),(5,cS a1),(6,cI x2),(26,cB s.2)]) (fun s=>[[kS a1,.d (.sl 1 (List.map dI a2)),kS a3,kI a4,kI a5,.sl 11 (List.map Ja a6) 2]]) [44] o1 ?_ ?_
 ·rcases xB Y G H with⟨p,H,F,G,q⟩|⟨p,H,F,G,q⟩
  ·obtain⟨g,H⟩:=Jd H
   refine xR ?_
   exact Jb H (xK ⟨[1],[2]⟩)
  refine xR ?_
  exact Jb H (xK ⟨[1],[2]⟩)
 rintro ⟨x3,x4⟩ H
 rw[Zi]at H
 rcases xB Y G H with⟨p,H,F,G,q⟩|⟨p,H,F,G,q⟩
 ·refine xT0 ?_
  refine Jbh ?_
  refine Jm ?_
  refine Jp VL (fun s=>[(1,.c (.d (.v (.int .u8 (s.1.toNat:Int))))),(5,cS a1),(6,cI s.2)]) (fun s=>[[kS a1,.d (.sl 1 (List.map dI a2)),kS a3,kI a4,kI a5,.sl 11 (List.map Ja a6) 2]]) [44] o1 ?_ ?_
  ·refine xS ?_
   obtain⟨g,H⟩:=Jd H
   refine xr ?_
   refine xr ?_
   rcases xB Y G H with⟨p,H,F,G,q⟩|⟨p,H,F,G,q⟩
   ·refine xT ?_
    replace H:=Js H hF1
    replace H:=oI H
    refine xr ?_
    subst H
    refine xOr ?_
    refine qDf [] ?_
    exact xO ⟨[1],[2]⟩
   refine xE ?_
   refine xr ?_
   rcases xB Y G H with⟨p,H,F,G,q⟩|⟨p,H,F,G,q⟩
   ·refine xT0 ?_
    refine Jp (Za x2) (fun s=>[(1,.c (.d (.v (.int .u8 (s.1.toNat:Int))))),(5,cS a1),(6,cI x2),(50,cB s.2)]) (fun s=>[[kS a1,.d (.sl 1 (List.map dI a2)),kS a3,kI a4,kI a5,.sl 11 (List.map Ja a6) 2]]) [44] o1 ?_ ?_
    ·rcases xB Y G H with⟨p,H,F,G,q⟩|⟨p,H,F,G,q⟩
     ·obtain⟨g,H⟩:=Jd H
      refine xR ?_
      exact Jb H (xK ⟨[1],[2]⟩)
     refine xR ?_
     exact Jb H (xK ⟨[1],[2]⟩)
    rintro ⟨x7,x8⟩ H
    rw[Za]at H
    rcases xB Y G H with⟨p,H,F,G,q⟩|⟨p,H,F,G,q⟩
    ·refine xT ?_
     refine xr ?_
     exact Jb H (xK ⟨[1],[2]⟩)
    refine xE ?_
    exact Jb H (xK ⟨[1],[2]⟩)
   refine xE ?_
   exact Jb H (xK ⟨[1],[2]⟩)
  rintro ⟨x5,x6⟩ H
  rw[VL]at H
  refine xr ?_
  exact JA (JF H hF1) (xK ⟨[1],[2]⟩)
 replace H:=Js H hF1
 refine xE ?_
 replace H:=oI H
 refine xr ?_
 subst H
 refine xOr ?_
 refine qDf [] ?_
 exact xO ⟨[1],[2]⟩
theorem Jld:Jc Tryz.prog 74∧(∀ g,Jb3 g→Jn Tryz.prog 74 g)∧(true=true→∀ g,Jb3 g→∃ val bs ts,g.out=.ret val bs ts) :=
 ⟨JCK,Jkj,fun _=>by rintro _ ⟨_,_,_,_,_,_,_,_,_,rfl⟩; exact⟨_,_,_,rfl⟩⟩
noncomputable def Zh:Bool→Option Bool
 | x1=>some x1
noncomputable def Jbf(a0:UInt8):Option Bool :=
 if(!eqI (a0.toNat:Int) 62)=true then Zh (!eqI (a0.toNat:Int) 10) else Zh false
noncomputable def Jdp:PF:=PF.of (E1 dU) (fun a=>Jbf a) dB
theorem Jkq:JE Tryz.prog 100 Jdp:=by
 refine xF mixed [] [] trivial trivial Tryz.func100 ?_
 rintro a0 out H
 have G:=True.intro
 have Y:=Tryz.results100
 simp only[Jbf]at H
 refine xS ?_
 refine xr0 ?_
 refine Jm ?_
 refine Jp Zh (fun s=>[(2,cB s)]) (fun s=>[]) [] out ?_ ?_
 ·rcases xB Y G H with⟨p,H,F,G,q⟩|⟨p,H,F,G,q⟩
  ·refine xR ?_
   exact Jb H (xK ⟨[],[]⟩)
  refine xR ?_
  exact Jb H (xK ⟨[],[]⟩)
 rintro x1 H
 rw[Zh]at H
 replace H:=oI H
 refine xS ?_
 subst H
 exact xN
theorem JlJ(a0:UInt8)(r:Bool)(H:Jbf a0=some r):PC Jdp [dU a0] (dB r):=PF.c (a:=a0) H
noncomputable def Xh(x1:Int):Bool→Option (Int ⊕ Int)
 | x2=>if x2=true then some (.inl (IntKind.i64.wrap (x1+1))) else inrO (some x1)
noncomputable def ZU(a1:List UInt8):Int→Option (Int ⊕ Int)
 | x1=>if(ltI x1 (a1.length:Int))=true then if(0:Int)≤x1∧x1.toNat<a1.length then(Jbf (a1.getD x1.toNat 0)).bind fun r1=>Xh x1 r1 else none else Xh x1 false
noncomputable def ZP(a0:Int)(a1:List UInt8)(a2:List Int)(a3:List UInt8)(a4 a5:Int)(a6:List Token):Option Int :=
 Jy (ZU a1) a0
def JaG(a0:Int)(a1:List UInt8)(a2:List Int)(a3:List UInt8)(a4 a5:Int)(a6:List Token)(r:Int):GI :=
 ⟨[.c (.pt 1 0),cI a0,.c (.d (.v (.func (.func 100) #[] #[])))],[[kS a1,.d (.sl 1 (List.map dI a2)),kS a3,kI a4,kI a5,.sl 11 (List.map Ja a6) 2]],[44],.ret (cI r) [[kS a1,.d (.sl 1 (List.map dI a2)),kS a3,kI a4,kI a5,.sl 11 (List.map Ja a6) 2]] [44]⟩
def JaE:GI→Prop:=Sg7 ZP JaG
theorem JiC:∀ g,JaE g→Jn Tryz.prog 68 g:=by
 rintro _ ⟨a0,a1,a2,a3,a4,a5,a6,r,H,rfl⟩
 refine xGn mixed [(100,Jdp)] [] [] ⟨⟨JAw,Jkq⟩,trivial⟩ trivial trivial Tryz.func68 _ ?_
 have G:=True.intro
 have Y:=xZ y_9 <| xZ y_70 <| xZ y_99 <| xZ Tryz.results68 <| xZ Jl.eq_1 <| xZ Ja.eq_1 <| xZ J5.eq_1 <| JaG.eq_1
 dsimp only[JaG]
 simp only[ZP]at H
 refine xS ?_
 refine xr ?_
 refine JZ (ZU a1) (fun s=>[(0,.c (.pt 1 0)),(1,cI s),(2,.c (.d (.v (.func (.func 100) #[] #[]))))]) (fun s=>[[kS a1,.d (.sl 1 (List.map dI a2)),kS a3,kI a4,kI a5,.sl 11 (List.map Ja a6) 2]]) [44] H (xK ⟨[1],[2]⟩) ?_
 rintro n1 x1 o1 H hF1
 rw[ZU]at H
 refine Vi ?_
 refine Jp (Xh x1) (fun s=>[(0,.c (.pt 1 0)),(1,cI x1),(2,.c (.d (.v (.func (.func 100) #[] #[])))),(25,cB s)]) (fun s=>[[kS a1,.d (.sl 1 (List.map dI a2)),kS a3,kI a4,kI a5,.sl 11 (List.map Ja a6) 2]]) [44] o1 ?_ ?_
 ·rcases xB Y G H with⟨p,H,F,G,q⟩|⟨p,H,F,G,q⟩
  ·obtain⟨g,H⟩:=Jd H
   obtain⟨r1,hr1,H⟩:=Jj H
   have F:=xCf F (JlJ (a1.getD x1.toNat 0) r1 hr1)
   refine xR ?_
   exact Jb H (xK ⟨[1],[2]⟩)
  refine xR ?_
  exact Jb H (xK ⟨[1],[2]⟩)
 rintro x2 H
 rw[Xh]at H
 rcases xB Y G H with⟨p,H,F,G,q⟩|⟨p,H,F,G,q⟩
 ·refine xT ?_
  refine xr ?_
  exact JA (JF H hF1) (xK ⟨[1],[2]⟩)
 replace H:=Js H hF1
 refine xE ?_
 replace H:=oI H
 refine xr ?_
 subst H
 refine xOr ?_
 refine qDf [] ?_
 exact xO ⟨[1],[2]⟩
theorem Jjt:Jc Tryz.prog 68∧(∀ g,JaE g→Jn Tryz.prog 68 g)∧(true=true→∀ g,JaE g→∃ val bs ts,g.out=.ret val bs ts) :=
 ⟨JpC,JiC,fun _=>by rintro _ ⟨_,_,_,_,_,_,_,_,_,rfl⟩; exact⟨_,_,_,rfl⟩⟩
noncomputable def Jak(r1:Int):Bool→Option Int
 | x2=>if x2=true then some (IntKind.i64.wrap (r1+1)) else some (-1)
noncomputable def J2(a0:List UInt8)(a1:List Int)(a2:List UInt8)(a3 a4:Int)(a5:List Token):Bool→Option Int
 | x1=>if x1=true then some (-1) else(ZP (IntKind.i64.wrap (a4+1)) a0 a1 a2 a3 a4 a5).bind fun r1=>if(ltI r1 (a0.length:Int))=true then if(0:Int)≤r1∧r1.toNat<a0.length then Jak r1 (eqI ((a0.getD r1.toNat 0).toNat:Int) 62) else none else Jak r1 false
noncomputable def JaY(a0:List UInt8)(a1:List Int)(a2:List UInt8)(a3 a4:Int)(a5:List Token):Option Int :=
 if(ltI (a5.length:Int) 2)=true then J2 a0 a1 a2 a3 a4 a5 true else if(0:Int)≤(IntKind.i64.wrap ((a5.length:Int)-1))∧(IntKind.i64.wrap ((a5.length:Int)-1)).toNat<a5.length then if(!eqS ((a5.getD ((IntKind.i64.wrap ((a5.length:Int)-1)).toNat) default).Text) [105,110,99,108,117,100,101])=true then J2 a0 a1 a2 a3 a4 a5 true else if(0:Int)≤(IntKind.i64.wrap ((a5.length:Int)-1))∧(IntKind.i64.wrap ((a5.length:Int)-1)).toNat<a5.length then if((a5.getD ((IntKind.i64.wrap ((a5.length:Int)-1)).toNat) default).First)=true then J2 a0 a1 a2 a3 a4 a5 true else if(0:Int)≤(IntKind.i64.wrap ((a5.length:Int)-2))∧(IntKind.i64.wrap ((a5.length:Int)-2)).toNat<a5.length then if(!((a5.getD ((IntKind.i64.wrap ((a5.length:Int)-2)).toNat) default).First))=true then J2 a0 a1 a2 a3 a4 a5 true else if(0:Int)≤(IntKind.i64.wrap ((a5.length:Int)-2))∧(IntKind.i64.wrap ((a5.length:Int)-2)).toNat<a5.length then J2 a0 a1 a2 a3 a4 a5 (!eqS ((a5.getD ((IntKind.i64.wrap ((a5.length:Int)-2)).toNat) default).Text) [35]) else none else none else none else none
def JcO(a0:List UInt8)(a1:List Int)(a2:List UInt8)(a3 a4:Int)(a5:List Token)(r:Int):GI :=
 ⟨[.c (.pt 1 0)],[[kS a0,.d (.sl 1 (List.map dI a1)),kS a2,kI a3,kI a4,.sl 11 (List.map Ja a5) 2]],[44],.ret (cI r) [[kS a0,.d (.sl 1 (List.map dI a1)),kS a2,kI a3,kI a4,.sl 11 (List.map Ja a5) 2]] [44]⟩
def JcT:GI→Prop:=Sg6 JaY JcO
theorem Jmo:∀ g,JcT g→Jn Tryz.prog 75 g:=by
 rintro _ ⟨a0,a1,a2,a3,a4,a5,r,H,rfl⟩
 refine xGn mixed [] [(68,true,JaE)] [] trivial ⟨Jjt,trivial⟩ trivial Tryz.func75 _ ?_
 have G:=True.intro
 have Y:=xZ y_3 <| xZ y_4 <| xZ y_9 <| xZ y_24 <| xZ y_44 <| xZ y_70 <| xZ y_99 <| xZ Tryz.results75 <| xZ Jl.eq_1 <| xZ Ja.eq_1 <| xZ J5.eq_1 <| xZ JaG.eq_1 <| JcO.eq_1
 dsimp only[JcO]
 simp only[JaY]at H
 refine xS ?_
 refine xr ?_
 refine xr0 ?_
 refine Jm ?_
 refine Vi ?_
 refine Jp (J2 a0 a1 a2 a3 a4 a5) (fun s=>[(0,.c (.pt 1 0)),(58,cB s)]) (fun s=>[[kS a0,.d (.sl 1 (List.map dI a1)),kS a2,kI a3,kI a4,.sl 11 (List.map Ja a5) 2]]) [44] r ?_ ?_
 ·rcases xB Y G H with⟨p,H,F,G,q⟩|⟨p,H,F,G,q⟩
  ·refine xR ?_
   exact Jb H (xK ⟨[1],[2]⟩)
  obtain⟨g,H⟩:=Jd H
  have F:=xZ F (Ji Ja a5 ((IntKind.i64.wrap ((a5.length:Int)-1)).toNat) default default (by omega))
  rcases xB F G H with⟨p,H,F,G,q⟩|⟨p,H,F,G,q⟩
  ·refine xR ?_
   exact Jb H (xK ⟨[1],[2]⟩)
  obtain⟨g,H⟩:=Jd H
  have F:=xZ F (Ji Ja a5 ((IntKind.i64.wrap ((a5.length:Int)-1)).toNat) default default (by omega))
  rcases xB F G H with⟨p,H,F,G,q⟩|⟨p,H,F,G,q⟩
  ·refine xR ?_
   exact Jb H (xK ⟨[1],[2]⟩)
  obtain⟨g,H⟩:=Jd H
  have F:=xZ F (Ji Ja a5 ((IntKind.i64.wrap ((a5.length:Int)-2)).toNat) default default (by omega))
  rcases xB F G H with⟨p,H,F,G,q⟩|⟨p,H,F,G,q⟩
  ·refine xR ?_
   exact Jb H (xK ⟨[1],[2]⟩)
  obtain⟨g,H⟩:=Jd H
  have F:=xZ F (Ji Ja a5 ((IntKind.i64.wrap ((a5.length:Int)-2)).toNat) default default (by omega))
  refine xR ?_
  exact Jb H (xK ⟨[1],[2]⟩)
 rintro x1 H
 rw[J2]at H
 rcases xB Y G H with⟨p,H,F,G,q⟩|⟨p,H,F,G,q⟩
 ·refine xT ?_
  replace H:=oI H
  refine xr ?_
  subst H
  refine xOr ?_
  refine qDf [] ?_
  exact xO ⟨[1],[2]⟩
 refine xE ?_
 obtain⟨r1,hr1,H⟩:=Jj H
 have F:=Y
 refine xQ ?_
 refine xs 6 ?_
 refine xc ⟨[1],[2]⟩ (tabG 0 (cg7 hr1)) ?_
 refine xs 1 ?_
 refine xl ?_
 refine  ?_
 refine Jm ?_
 refine Vi ?_
 refine Jp (Jak r1) (fun s=>[(4,cI r1),(83,cB s)]) (fun s=>[[kS a0,.d (.sl 1 (List.map dI a1)),kS a2,kI a3,kI a4,.sl 11 (List.map Ja a5) 2]]) [44] r ?_ ?_
 ·rcases xB Y G H with⟨p,H,F,G,q⟩|⟨p,H,F,G,q⟩
  ·obtain⟨g,H⟩:=Jd H
   refine xR ?_
   exact Jb H (xK ⟨[1],[4]⟩)
  refine xR ?_
  exact Jb H (xK ⟨[1],[4]⟩)
 rintro x2 H
 rw[Jak]at H
 rcases xB Y G H with⟨p,H,F,G,q⟩|⟨p,H,F,G,q⟩
 ·refine xT ?_
  replace H:=oI H
  refine xr ?_
  subst H
  refine xOr ?_
  refine qDf [] ?_
  exact xO ⟨[1],[2]⟩
 refine xE ?_
 replace H:=oI H
 refine xr ?_
 subst H
 refine xOr ?_
 refine qDf [] ?_
 exact xO ⟨[1],[2]⟩
theorem JmN:Jc Tryz.prog 75∧(∀ g,JcT g→Jn Tryz.prog 75 g)∧(true=true→∀ g,JcT g→∃ val bs ts,g.out=.ret val bs ts) :=
 ⟨JCG,Jmo,fun _=>by rintro _ ⟨_,_,_,_,_,_,_,_,rfl⟩; exact⟨_,_,_,rfl⟩⟩
noncomputable def Jgt  : Option YR :=
 some [[46,46,46],[60,60,61],[62,62,61],[45,62],[43,43],[45,45],[60,60],[62,62],[60,61],[62,61],[61,61],[33,61],[38,38],[124,124],[43,61],[45,61],[42,61],[47,61],[37,61],[38,61],[124,61],[94,61],[35,35],[91],[93],[40],[41],[123],[125],[46],[38],[42],[43],[45],[126],[33],[47],[37],[60],[62],[94],[124],[63],[58],[59],[61],[44],[35]]
noncomputable def Jhu:PF:=PF.of E0 (fun _=>Jgt) (dL 1 dS)
theorem JvB:JE Tryz.prog 101 Jhu:=by
 refine xF mixed [] [] trivial trivial Tryz.func101 ?_
 rintro _ out H
 have G:=True.intro
 have Y:=xZ y_9 <| xZ y_41 <| Tryz.results101
 simp only[Jgt]at H
 refine xS ?_
 refine xr ?_
 replace H:=oI H
 refine xr ?_
 subst H
 exact xN
theorem Jwe  (r:YR) (H:Jgt  = some r):PC Jhu [] ((dL 1 dS) r):=PF.c (a:=()) H
noncomputable def Jam(a4 x1 x2:Int):((List UInt8)×Bool)→Option YS
 | (x3,x4)=>if x4=true then inrO (some (IntKind.i64.wrap (a4+(x3.length:Int)))) else some (.inl (x1,IntKind.i64.wrap (x2+1)))
noncomputable def Jah(a0:List UInt8)(a4:Int)(r1:YR):(Int×Int)→Option YS
 | (x1,x2)=>if(ltI x2 x1)=true then if(0:Int)≤x2∧x2.toNat<r1.length then if(leI ((r1.getD x2.toNat default).length:Int) (IntKind.i64.wrap ((a0.length:Int)-a4)))=true then if(0:Int)≤a4∧a4≤(IntKind.i64.wrap (a4+((r1.getD x2.toNat default).length:Int)))∧(IntKind.i64.wrap (a4+((r1.getD x2.toNat default).length:Int)))≤(a0.length:Int) then Jam a4 x1 x2 ((r1.getD x2.toNat default),eqS (List.take ((IntKind.i64.wrap (a4+((r1.getD x2.toNat default).length:Int))).toNat-a4.toNat) (List.drop a4.toNat a0)) (r1.getD x2.toNat default)) else none else Jam a4 x1 x2 ((r1.getD x2.toNat default),false) else none else inrO (some (-1))
noncomputable def JaZ(a0:List UInt8)(a1:List Int)(a2:List UInt8)(a3 a4:Int)(a5:List Token):Option Int :=
 (Jgt).bind fun r1=>Jy (Jah a0 a4 r1) ((r1.length:Int),0)
def Jc2(a0:List UInt8)(a1:List Int)(a2:List UInt8)(a3 a4:Int)(a5:List Token)(r:Int):GI :=
 ⟨[.c (.pt 1 0)],[[kS a0,.d (.sl 1 (List.map dI a1)),kS a2,kI a3,kI a4,.sl 11 (List.map Ja a5) 2]],[44],.ret (cI r) [[kS a0,.d (.sl 1 (List.map dI a1)),kS a2,kI a3,kI a4,.sl 11 (List.map Ja a5) 2]] [44]⟩
def JcU:GI→Prop:=Sg6 JaZ Jc2
theorem Jms:∀ g,JcU g→Jn Tryz.prog 76 g:=by
 rintro _ ⟨a0,a1,a2,a3,a4,a5,r,H,rfl⟩
 refine xGn mixed [(101,Jhu)] [] [] ⟨⟨JAn,JvB⟩,trivial⟩ trivial trivial Tryz.func76 _ ?_
 have G:=True.intro
 have Y:=xZ y_3 <| xZ y_9 <| xZ y_41 <| xZ y_70 <| xZ y_99 <| xZ Tryz.results76 <| xZ Jl.eq_1 <| xZ Ja.eq_1 <| xZ J5.eq_1 <| Jc2.eq_1
 dsimp only[Jc2]
 simp only[JaZ]at H
 refine xS ?_
 refine xr ?_
 obtain⟨r1,hr1,H⟩:=Jj H
 have F:=xC Y (Jwe  r1 hr1)
 refine xR ?_
 refine JZ (Jah a0 a4 r1) (fun s=>[(0,.c (.pt 1 0)),(5,.c (.d (.sl 1 (List.map dS r1)))),(6,cI s.1),(7,cI s.2)]) (fun s=>[[kS a0,.d (.sl 1 (List.map dI a1)),kS a2,kI a3,kI a4,.sl 11 (List.map Ja a5) 2]]) [44] H (xK ⟨[1],[2]⟩) ?_
 rintro n1 ⟨x1,x2⟩ o1 H hF1
 rw[Jah]at H
 refine xS ?_
 refine xr ?_
 rcases xB Y G H with⟨p,H,F,G,q⟩|⟨p,H,F,G,q⟩
 ·refine xT ?_
  obtain⟨g,H⟩:=Jd H
  have F:=xZ Y (Ji dS r1 x2.toNat default default (by omega))
  refine xR0 ?_
  refine Jm ?_
  refine Jp (Jam a4 x1 x2) (fun s=>[(0,.c (.pt 1 0)),(4,cS s.1),(5,.c (.d (.sl 1 (List.map dS r1)))),(6,cI x1),(7,cI x2),(45,cB s.2)]) (fun s=>[[kS a0,.d (.sl 1 (List.map dI a1)),kS a2,kI a3,kI a4,.sl 11 (List.map Ja a5) 2]]) [44] o1 ?_ ?_
  ·rcases xB Y G H with⟨p,H,F,G,q⟩|⟨p,H,F,G,q⟩
   ·obtain⟨g,H⟩:=Jd H
    refine xR ?_
    exact Jb H (xK ⟨[1],[2]⟩)
   refine xR ?_
   exact Jb H (xK ⟨[1],[2]⟩)
  rintro ⟨x3,x4⟩ H
  rw[Jam]at H
  rcases xB Y G H with⟨p,H,F,G,q⟩|⟨p,H,F,G,q⟩
  ·refine xT ?_
   replace H:=Js H hF1
   replace H:=oI H
   refine xr ?_
   subst H
   refine xOr ?_
   refine qDf [] ?_
   exact xO ⟨[1],[2]⟩
  refine xE ?_
  refine xr ?_
  exact JA (JF H hF1) (xK ⟨[1],[2]⟩)
 replace H:=Js H hF1
 refine xE ?_
 replace H:=oI H
 refine xr ?_
 subst H
 refine xOr ?_
 refine qDf [] ?_
 exact xO ⟨[1],[2]⟩
theorem JmU:Jc Tryz.prog 76∧(∀ g,JcU g→Jn Tryz.prog 76 g)∧(true=true→∀ g,JcU g→∃ val bs ts,g.out=.ret val bs ts) :=
 ⟨JCW,Jms,fun _=>by rintro _ ⟨_,_,_,_,_,_,_,_,rfl⟩; exact⟨_,_,_,rfl⟩⟩
noncomputable def V5(a1:List UInt8)(a2:List Int)(a3:List UInt8)(a4 a5:Int)(a6:List Token):Bool→Option (Int×Int)
 | x3=>if x3=true then(JaY a1 a2 a3 a4 a5 a6).bind fun r6=>some (7,r6) else(JaZ a1 a2 a3 a4 a5 a6).bind fun r7=>if(ltI 0 r7)=true then(JaZ a1 a2 a3 a4 a5 a6).bind fun r8=>some (5,r8) else some (6,IntKind.i64.wrap (a5+1))
noncomputable def Vt(a0:Bool)(a1:List UInt8)(a2:List Int)(a3:List UInt8)(a4 a5:Int)(a6:List Token):YW→Option (Int×Int)
 | (x1,x2)=>if x2=true then(Jbk a1 a2 a3 a4 a5 a6).bind fun r3=>some (2,r3) else if(eqI (x1.toNat:Int) 34)=true then(Zp x1 a1 a2 a3 a4 a5 a6).bind fun r4=>some (4,r4) else if(eqI (x1.toNat:Int) 39)=true then(Zp x1 a1 a2 a3 a4 a5 a6).bind fun r5=>some (3,r5) else if(eqI (x1.toNat:Int) 60)=true then if(!a0)=true then(JaY a1 a2 a3 a4 a5 a6).bind fun r9=>V5 a1 a2 a3 a4 a5 a6 (ltI 0 r9) else V5 a1 a2 a3 a4 a5 a6 false else V5 a1 a2 a3 a4 a5 a6 false
noncomputable def JbD(a0:Bool)(a1:List UInt8)(a2:List Int)(a3:List UInt8)(a4 a5:Int)(a6:List Token):Option (Int×Int) :=
 if(0:Int)≤a5∧a5.toNat<a1.length then(Jb5 (a1.getD a5.toNat 0)).bind fun r1=>if r1=true then(ZG a5 a1 a2 a3 a4 a5 a6).bind fun r2=>some (1,r2) else(JbO (a1.getD a5.toNat 0)).bind fun r10=>if r10=true then Vt a0 a1 a2 a3 a4 a5 a6 ((a1.getD a5.toNat 0),true) else if(eqI ((a1.getD a5.toNat 0).toNat:Int) 46)=true then if(ltI (IntKind.i64.wrap (a5+1)) (a1.length:Int))=true then if(0:Int)≤(IntKind.i64.wrap (a5+1))∧(IntKind.i64.wrap (a5+1)).toNat<a1.length then(JbO (a1.getD ((IntKind.i64.wrap (a5+1)).toNat) 0)).bind fun r11=>Vt a0 a1 a2 a3 a4 a5 a6 ((a1.getD a5.toNat 0),r11) else none else Vt a0 a1 a2 a3 a4 a5 a6 ((a1.getD a5.toNat 0),false) else Vt a0 a1 a2 a3 a4 a5 a6 ((a1.getD a5.toNat 0),false) else none
def Jdr(a0:Bool)(a1:List UInt8)(a2:List Int)(a3:List UInt8)(a4 a5:Int)(a6:List Token)(r:(Int×Int)):GI :=
 ⟨[.c (.pt 1 0),cB a0],[[kS a1,.d (.sl 1 (List.map dI a2)),kS a3,kI a4,kI a5,.sl 11 (List.map Ja a6) 2]],[44],.ret (.tu [(false,[kI r.1]),(false,[kI r.2])]) [[kS a1,.d (.sl 1 (List.map dI a2)),kS a3,kI a4,kI a5,.sl 11 (List.map Ja a6) 2]] [44]⟩
def Jdv:GI→Prop:=Sg7 JbD Jdr
theorem JmK:∀ g,Jdv g→Jn Tryz.prog 50 g:=by
 rintro _ ⟨a0,a1,a2,a3,a4,a5,a6,r,H,rfl⟩
 refine xGn mixed [(70,Jc6),(72,JdO)] [(68,true,Jaw),(73,true,JbM),(74,true,Jb3),(75,true,JcT),(76,true,JcU)] [] ⟨⟨Jpv,JgN⟩,⟨Jpb,Jhl⟩,trivial⟩ ⟨Jjf,Jlw,Jld,JmN,JmU,trivial⟩ trivial Tryz.func50 _ ?_
 have G:=True.intro
 have Y:=xZ y_3 <| xZ y_9 <| xZ y_70 <| xZ y_99 <| xZ Tryz.results50 <| xZ Jl.eq_1 <| xZ Ja.eq_1 <| xZ J5.eq_1 <| xZ JaO.eq_1 <| xZ Jb2.eq_1 <| xZ JbW.eq_1 <| xZ JcO.eq_1 <| xZ Jc2.eq_1 <| Jdr.eq_1
 dsimp only[Jdr]
 simp only[JbD]at H
 refine xS ?_
 refine xr ?_
 refine xr ?_
 obtain⟨g,H⟩:=Jd H
 refine xr ?_
 obtain⟨r1,hr1,H⟩:=Jj H
 have F:=xC Y (JhD (a1.getD a5.toNat 0) r1 hr1)
 refine xR ?_
 rcases xB Y G H with⟨p,H,F,G,q⟩|⟨p,H,F,G,q⟩
 ·refine xT ?_
  obtain⟨r2,hr2,H⟩:=Jj H
  have F:=Y
  refine xQ ?_
  refine xs 5 ?_
  refine xc ⟨[1],[2]⟩ (tabG 0 (cg7 hr2)) ?_
  refine xs 2 ?_
  refine xl ?_
  replace H:=oI H
  refine xS ?_
  subst H
  refine xOr ?_
  refine qDf [] ?_
  exact xO ⟨[1],[4]⟩
 refine xE0 ?_
 refine Jp (Vt a0 a1 a2 a3 a4 a5 a6) (fun s=>[(0,.c (.pt 1 0)),(1,cB a0),(7,.c (.d (.v (.int .u8 (s.1.toNat:Int))))),(28,cB s.2)]) (fun s=>[[kS a1,.d (.sl 1 (List.map dI a2)),kS a3,kI a4,kI a5,.sl 11 (List.map Ja a6) 2]]) [44] r ?_ ?_
 ·obtain⟨r10,hr10,H⟩:=Jj H
  have F:=xC Y (Jgi (a1.getD a5.toNat 0) r10 hr10)
  rcases xB F G H with⟨p,H,F,G,q⟩|⟨p,H,F,G,q⟩
  ·refine xR ?_
   exact Jb H (xK ⟨[1],[2]⟩)
  rcases xB F G H with⟨p,H,F,G,q⟩|⟨p,H,F,G,q⟩
  ·rcases xB F G H with⟨p,H,F,G,q⟩|⟨p,H,F,G,q⟩
   ·obtain⟨g,H⟩:=Jd H
    obtain⟨r11,hr11,H⟩:=Jj H
    have F:=xCf F (Jgi (a1.getD ((IntKind.i64.wrap (a5+1)).toNat) 0) r11 hr11)
    refine xR ?_
    exact Jb H (xK ⟨[1],[2]⟩)
   refine xR ?_
   exact Jb H (xK ⟨[1],[2]⟩)
  refine xR ?_
  exact Jb H (xK ⟨[1],[2]⟩)
 rintro ⟨x1,x2⟩ H
 rw[Vt]at H
 rcases xB Y G H with⟨p,H,F,G,q⟩|⟨p,H,F,G,q⟩
 ·refine xT ?_
  obtain⟨r3,hr3,H⟩:=Jj H
  have F:=Y
  refine xQ ?_
  refine xs 1 ?_
  refine xc ⟨[1],[2]⟩ (tabG 1 (cg6 hr3)) ?_
  refine xs 2 ?_
  refine xl ?_
  replace H:=oI H
  refine xS ?_
  subst H
  refine xOr ?_
  refine qDf [] ?_
  exact xO ⟨[1],[4]⟩
 refine xE ?_
 refine xr ?_
 rcases xB Y G H with⟨p,H,F,G,q⟩|⟨p,H,F,G,q⟩
 ·refine xT ?_
  obtain⟨r4,hr4,H⟩:=Jj H
  have F:=Y
  refine xQ ?_
  refine xs 2 ?_
  refine xc ⟨[1],[2]⟩ (tabG 2 (cg7 hr4)) ?_
  refine xs 2 ?_
  refine xl ?_
  replace H:=oI H
  refine xS ?_
  subst H
  refine xOr ?_
  refine qDf [] ?_
  exact xO ⟨[1],[4]⟩
 refine xE ?_
 refine xr ?_
 rcases xB Y G H with⟨p,H,F,G,q⟩|⟨p,H,F,G,q⟩
 ·refine xT ?_
  obtain⟨r5,hr5,H⟩:=Jj H
  have F:=Y
  refine xQ ?_
  refine xs 2 ?_
  refine xc ⟨[1],[2]⟩ (tabG 2 (cg7 hr5)) ?_
  refine xs 2 ?_
  refine xl ?_
  replace H:=oI H
  refine xS ?_
  subst H
  refine xOr ?_
  refine qDf [] ?_
  exact xO ⟨[1],[4]⟩
 refine xE0 ?_
 refine Jp (V5 a1 a2 a3 a4 a5 a6) (fun s=>[(0,.c (.pt 1 0)),(69,cB s)]) (fun s=>[[kS a1,.d (.sl 1 (List.map dI a2)),kS a3,kI a4,kI a5,.sl 11 (List.map Ja a6) 2]]) [44] r ?_ ?_
 ·rcases xB Y G H with⟨p,H,F,G,q⟩|⟨p,H,F,G,q⟩
  ·rcases xB F G H with⟨p,H,F,G,q⟩|⟨p,H,F,G,q⟩
   ·obtain⟨r9,hr9,H⟩:=Jj H
    have F:=F
    refine xQ ?_
    refine xs 8 ?_
    refine xc ⟨[1],[2]⟩ (tabG 3 (cg6 hr9)) ?_
    refine xs 3 ?_
    refine xl ?_
    refine xS ?_
    exact Jb H (xK ⟨[1],[4]⟩)
   refine xR ?_
   exact Jb H (xK ⟨[1],[2]⟩)
  refine xR ?_
  exact Jb H (xK ⟨[1],[2]⟩)
 rintro x3 H
 rw[V5]at H
 rcases xB Y G H with⟨p,H,F,G,q⟩|⟨p,H,F,G,q⟩
 ·refine xT ?_
  obtain⟨r6,hr6,H⟩:=Jj H
  have F:=Y
  refine xQ ?_
  refine xs 1 ?_
  refine xc ⟨[1],[2]⟩ (tabG 3 (cg6 hr6)) ?_
  refine xs 2 ?_
  refine xl ?_
  replace H:=oI H
  refine xS ?_
  subst H
  refine xOr ?_
  refine qDf [] ?_
  exact xO ⟨[1],[4]⟩
 refine xE ?_
 obtain⟨r7,hr7,H⟩:=Jj H
 have F:=Y
 refine xQ ?_
 refine xs 1 ?_
 refine xc ⟨[1],[2]⟩ (tabG 4 (cg6 hr7)) ?_
 refine xs 2 ?_
 refine xl ?_
 refine xS ?_
 rcases xB Y G H with⟨p,H,F,G,q⟩|⟨p,H,F,G,q⟩
 ·refine xT ?_
  obtain⟨r8,hr8,H⟩:=Jj H
  have F:=Y
  refine xQ ?_
  refine xs 1 ?_
  refine xc ⟨[1],[4]⟩ (tabG 4 (cg6 hr8)) ?_
  refine xs 2 ?_
  refine xl ?_
  replace H:=oI H
  refine xS ?_
  subst H
  refine xOr ?_
  refine qDf [] ?_
  exact xO ⟨[1],[6]⟩
 refine xE ?_
 replace H:=oI H
 refine xr ?_
 subst H
 refine xOr ?_
 refine qDf [] ?_
 exact xO ⟨[1],[4]⟩
theorem Jnh:Jc Tryz.prog 50∧(∀ g,Jdv g→Jn Tryz.prog 50 g)∧(true=true→∀ g,Jdv g→∃ val bs ts,g.out=.ret val bs ts) :=
 ⟨JCZ,JmK,fun _=>by rintro _ ⟨_,_,_,_,_,_,_,_,_,rfl⟩; exact⟨_,_,_,rfl⟩⟩
noncomputable def JbJ(x2 x3:Int):Int→Option (YV ⊕ Int)
 | x4=>some (.inl (x4,x2,IntKind.i64.wrap (x3+1)))
noncomputable def JbX(a0:List UInt8):YV→Option (YV ⊕ Int)
 | (x1,x2,x3)=>if(ltI x3 x2)=true then if(0:Int)≤x3∧x3.toNat<a0.length then if(eqI ((a0.getD x3.toNat 0).toNat:Int) 10)=true then JbJ x2 x3 (IntKind.i64.wrap (x1+1)) else JbJ x2 x3 x1 else none else inrO (some x1)
noncomputable def Jcr(a0:List UInt8)(a1:Int):Option Int :=
 Jy (JbX a0) (1,(if(a0.length:Int)<(if 0 > a1 then 0 else a1) then(a0.length:Int) else(if 0 > a1 then 0 else a1)),0)
noncomputable def JfG:PF:=PF.of (E2 dS dI) (fun a=>Jcr a.1 a.2) dI
theorem JoC:JE Tryz.prog 51 JfG:=by
 refine xF mixed [] [] trivial trivial Tryz.func51 ?_
 rintro ⟨a0,a1⟩ out H
 have G:=True.intro
 have Y:=xZ y_3 <| xZ y_9 <| Tryz.results51
 simp only[Jcr]at H
 refine xS ?_
 refine xr ?_
 refine xr ?_
 refine xr ?_
 refine JZ (JbX a0) (fun s=>[(0,cS a0),(5,cI s.1),(11,cI s.2.1),(12,cI s.2.2)]) (fun s=>[]) [] H (xK ⟨[],[]⟩) ?_
 rintro n1 ⟨x1,x2,x3⟩ o1 H hF1
 rw[JbX]at H
 refine xS ?_
 refine xr ?_
 rcases xB Y G H with⟨p,H,F,G,q⟩|⟨p,H,F,G,q⟩
 ·refine xT0 ?_
  refine Jbh ?_
  refine Jm ?_
  refine Jp (JbJ x2 x3) (fun s=>[(0,cS a0),(5,cI s),(11,cI x2),(12,cI x3)]) (fun s=>[]) [] o1 ?_ ?_
  ·refine xS ?_
   refine xr ?_
   obtain⟨g,H⟩:=Jd H
   refine xr ?_
   rcases xB Y G H with⟨p,H,F,G,q⟩|⟨p,H,F,G,q⟩
   ·refine xT ?_
    refine xr ?_
    exact Jb H (xK ⟨[],[]⟩)
   refine xE ?_
   exact Jb H (xK ⟨[],[]⟩)
  rintro x4 H
  rw[JbJ]at H
  refine xr ?_
  exact JA (JF H hF1) (xK ⟨[],[]⟩)
 replace H:=Js H hF1
 refine xE ?_
 replace H:=oI H
 refine xr ?_
 subst H
 exact xN
theorem Jpp(a0:List UInt8)(a1 r:Int)(H:Jcr a0 a1=some r):PC JfG [dS a0,dI a1] (dI r):=PF.c (a:=(a0,a1)) H
noncomputable def JbA(a0:Int)(a1:List UInt8)(r1:Spliced)(x2:List Token)(r2:YF):Bool→Option Yu
 | x3=>(Xy r1 r2.2.2.2).bind fun r4=>(JbD x3 r1.Text r1.At a1 a0 r2.2.2.2 x2).bind fun r5=>if(ltI r5.2 0)=true then inrO (some (([]:List Token),(⟨9,a0,r4⟩:Fault))) else if(0:Int)≤r2.2.2.2∧r2.2.2.2≤r5.2∧r5.2≤(r1.Text.length:Int) then(Xy r1 (IntKind.i64.wrap (r5.2-1))).bind fun r6=>(Jcr a1 r4).bind fun r7=>if(x2.length + [(⟨r5.1,List.take (r5.2.toNat-r2.2.2.2.toNat) (List.drop r2.2.2.2.toNat r1.Text),r2.1,x3,a0,r4,IntKind.i64.wrap (r6+1),r7,([]:List (List UInt8)),([]:List Call),0⟩:Token)].length) * 120≤140737488355328 then some (.inl (r5.2,x2++[(⟨r5.1,List.take (r5.2.toNat-r2.2.2.2.toNat) (List.drop r2.2.2.2.toNat r1.Text),r2.1,x3,a0,r4,IntKind.i64.wrap (r6+1),r7,([]:List (List UInt8)),([]:List Call),0⟩:Token)])) else none else none
noncomputable def JbB(a0:Int)(a1:List UInt8)(r1:Spliced):YL→Option Yu
 | (x1,x2)=>(Jdw r1.Text r1.At a1 a0 x1 x2).bind fun r2=>if(!r2.2.2.1)=true then(Xy r1 r2.2.2.2).bind fun r3=>inrO (some (([]:List Token),(⟨9,a0,r3⟩:Fault))) else if(eqI r2.2.2.2 (r1.Text.length:Int))=true then inrO (some (x2,(⟨0,(-1),0⟩:Fault))) else if(eqI (x2.length:Int) 0)=true then JbA a0 a1 r1 x2 r2 true else JbA a0 a1 r1 x2 r2 r2.2.1
noncomputable def KO(a0:Int)(a1:List UInt8):Option ((List Token)×Fault) :=
 if(ltI 3000 (a1.length:Int))=true then some (([]:List Token),(⟨4,a0,0⟩:Fault)) else(Jdm a1).bind fun r1=>Jy (JbB a0 a1 r1) (0,([]:List Token))
noncomputable def JgH:PF:=PF.of (E2 dI dS) (fun a=>KO a.1 a.2) (T2 (dL 11 Ja) Kf)
theorem Js5:JE Tryz.prog 32 JgH:=by
 refine xF mixed [(47,Jga),(49,Jfl),(51,JfG)] [(48,true,Jch),(50,true,Jdv)] ⟨⟨JDf,JpI⟩,⟨JDk,Jnr⟩,⟨JCH,JoC⟩,trivial⟩ ⟨Jmp,Jnh,trivial⟩ Tryz.func32 ?_
 rintro ⟨a0,a1⟩ out H
 have G:=True.intro
 have Y:=xZ y_3 <| xZ y_4 <| xZ y_9 <| xZ y_24 <| xZ y_29 <| xZ y_31 <| xZ y_41 <| xZ y_42 <| xZ y_44 <| xZ y_70 <| xZ y_99 <| xZ Tryz.results32 <| xZ Jl.eq_1 <| xZ Ja.eq_1 <| xZ J5.eq_1 <| xZ Kf.eq_1 <| xZ Jck.eq_1 <| Jdr.eq_1
 simp only[KO]at H
 refine xS ?_
 refine xr ?_
 refine xr ?_
 rcases xB Y G H with⟨p,H,F,G,q⟩|⟨p,H,F,G,q⟩
 ·refine xT ?_
  replace H:=oI H
  refine xr ?_
  subst H
  exact xN
 refine xE ?_
 obtain⟨r1,hr1,H⟩:=Jj H
 have F:=xC Y (Jtc a1 r1 hr1)
 refine xR ?_
 refine JZ (JbB a0 a1 r1) (fun s=>[(0,cI a0),(1,cS a1),(5,.c (.pt 1 0)),(6,.c (.pt 2 0))]) (fun s=>[[kI 0,kI 0,kI 0],[kS r1.Text,.d (.sl 1 (List.map dI r1.At)),kS a1,kI a0,kI s.1,.sl 11 (List.map Ja s.2) 3]]) [44] H (xK ⟨[1,2],[0]⟩) ?_
 rintro n1 ⟨x1,x2⟩ o1 H hF1
 rw[JbB]at H
 refine xS ?_
 obtain⟨r2,hr2,H⟩:=Jj H
 have F:=Y
 refine xQ ?_
 refine xs 1 ?_
 refine xc ⟨[2],[3]⟩ (tabG 0 (cg6 hr2)) ?_
 refine xs 7 ?_
 refine xl ?_
 refine xS ?_
 refine xr ?_
 rcases xB Y G H with⟨p,H,F,G,q⟩|⟨p,H,F,G,q⟩
 ·refine xT ?_
  obtain⟨r3,hr3,H⟩:=Jj H
  have F:=xC Y (Jgc r1 r2.2.2.2 r3 hr3)
  replace H:=Js H hF1
  replace H:=oI H
  refine xR ?_
  subst H
  exact xN
 refine xE ?_
 refine xr ?_
 rcases xB Y G H with⟨p,H,F,G,q⟩|⟨p,H,F,G,q⟩
 ·refine xT ?_
  replace H:=Js H hF1
  replace H:=oI H
  refine xr ?_
  subst H
  exact xN
 refine xE0 ?_
 refine Jbh ?_
 refine Jm ?_
 refine Jp (JbA a0 a1 r1 x2 r2) (fun s=>[(0,cI a0),(1,cS a1),(5,.c (.pt 1 0)),(6,.c (.pt 2 0)),(7,cB r2.1),(10,cB s)]) (fun s=>[[kI 0,kI 0,kI 0],[kS r1.Text,.d (.sl 1 (List.map dI r1.At)),kS a1,kI a0,kI r2.2.2.2,.sl 11 (List.map Ja x2) 3]]) [44] o1 ?_ ?_
 ·rcases xB Y G H with⟨p,H,F,G,q⟩|⟨p,H,F,G,q⟩
  ·refine xR ?_
   exact Jb H (xK ⟨[1,2],[5]⟩)
  refine xR ?_
  exact Jb H (xK ⟨[1,2],[5]⟩)
 rintro x3 H
 rw[JbA]at H
 refine xS ?_
 obtain⟨r4,hr4,H⟩:=Jj H
 have F:=xC Y (Jgc r1 r2.2.2.2 r4 hr4)
 refine xR ?_
 obtain⟨r5,hr5,H⟩:=Jj H
 have F:=Y
 refine xQ ?_
 refine xs 2 ?_
 refine xc ⟨[2],[3]⟩ (tabG 1 (cg7 hr5)) ?_
 refine xs 5 ?_
 refine xl ?_
 refine xS ?_
 refine xr ?_
 rcases xB Y G H with⟨p,H,F,G,q⟩|⟨p,H,F,G,q⟩
 ·refine xT ?_
  replace H:=Js H hF1
  replace H:=oI H
  refine xr ?_
  subst H
  exact xN
 refine xE ?_
 obtain⟨g,H⟩:=Jd H
 obtain⟨r6,hr6,H⟩:=Jj H
 have F:=xC Y (Jgc r1 (IntKind.i64.wrap (r5.2-1)) r6 hr6)
 obtain⟨r7,hr7,H⟩:=Jj H
 have F:=xCf F (Jpp a1 r4 r7 hr7)
 obtain⟨g,H⟩:=Jd H
 have F:=xZ F (JQ KV [(⟨r5.1,List.take (r5.2.toNat-r2.2.2.2.toNat) (List.drop r2.2.2.2.toNat r1.Text),r2.1,x3,a0,r4,IntKind.i64.wrap (r6+1),r7,([]:List (List UInt8)),([]:List Call),0⟩:Token)])
 refine xR ?_
 refine xr ?_
 exact JA (JF H hF1) (xK ⟨[1,2],[6]⟩)
theorem JuQ(a0:Int)(a1:List UInt8)(r:(List Token)×Fault)(H:KO a0 a1=some r):PC JgH [dI a0,dS a1] (T2 (dL 11 Ja) Kf r):=PF.c (a:=(a0,a1)) H
end Go.Proofs.YtfkhlbhjhdpkoaaGreatDoor
