/- Functions of data for functions of the program. Written by dec3.py. -/
import Derived.Test.YtfkhlbhjhdpkoaaGreatDoorZqal
set_option linter.unusedVariables false
set_option linter.unusedSimpArgs false
set_option maxHeartbeats 4000000
set_option maxRecDepth 100000
namespace Go.Proofs.YtfkhlbhjhdpkoaaGreatDoor
open Go.RowKit
noncomputable def Jca:Bool→Option Int
 | x2=>if x2=true then some 3 else some 0
noncomputable def Jci(a0:List UInt8):Bool→Option Int
 | x1=>if x1=true then some 2 else if(leI 3 (a0.length:Int))=true then if(0:Int)≤0∧0≤3∧3≤(a0.length:Int) then Jca (eqS (List.take 3 a0) [92,13,10]) else none else Jca false
noncomputable def JbJ(a0:List UInt8):Option Int :=
 if(leI 2 (a0.length:Int))=true then if(0:Int)≤0∧0≤2∧2≤(a0.length:Int) then Jci a0 (eqS (List.take 2 a0) [92,10]) else none else Jci a0 false
noncomputable def Jgw:PF:=PF.of (E1 dS) (fun a=>JbJ a) dI
theorem JoS:JB Tryz.prog 67 Jgw:=by
 refine xF mixed [] [] trivial trivial Tryz.func67 ?_
 rintro a0 out H
 have G:=True.intro
 have Y:=xZ y_9 <| Tryz.results67
 simp only[JbJ]at H
 refine xS ?_
 refine xr0 ?_
 refine Jj ?_
 refine Kf ?_
 refine Jag ?_
 refine Jn (Jci a0) (fun s=>[(0,cS a0),(3,cB s)]) (fun s=>[]) [] out ?_ ?_
 ·rcases xB Y G H with⟨p,H,F,G,q⟩|⟨p,H,F,G,q⟩
  ·obtain⟨g,H⟩:=Jc H
   refine xR ?_
   exact Jb H (xK ⟨[],[]⟩)
  refine xR ?_
  exact Jb H (xK ⟨[],[]⟩)
 rintro x1 H
 rw[Jci]at H
 rcases xB Y G H with⟨p,H,F,G,q⟩|⟨p,H,F,G,q⟩
 ·refine xT ?_
  replace H:=oI H
  refine xr ?_
  subst H
  exact xN
 refine xE0 ?_
 refine Jn Jca (fun s=>[(12,cB s)]) (fun s=>[]) [] out ?_ ?_
 ·rcases xB Y G H with⟨p,H,F,G,q⟩|⟨p,H,F,G,q⟩
  ·obtain⟨g,H⟩:=Jc H
   refine xR ?_
   exact Jb H (xK ⟨[],[]⟩)
  refine xR ?_
  exact Jb H (xK ⟨[],[]⟩)
 rintro x2 H
 rw[Jca]at H
 rcases xB Y G H with⟨p,H,F,G,q⟩|⟨p,H,F,G,q⟩
 ·refine xT ?_
  replace H:=oI H
  refine xr ?_
  subst H
  exact xN
 refine xE ?_
 replace H:=oI H
 refine xr ?_
 subst H
 exact xN
theorem Jjt(a0:List UInt8)(r:Int)(H:JbJ a0=some r):PC Jgw [dS a0] (dI r):=PF.c (a:=a0) H
noncomputable def Jbu(a0 x1:List UInt8)(x2:List Int)(x3:Int)(x4:List UInt8):Bool→Option Yn
 | x5=>if x5=true then some (.inl (x1,x2,IntKind.i64.wrap (x3+1),x4)) else if(0:Int)≤x3∧x3.toNat<a0.length then if(x1.length + [(a0.getD x3.toNat 0)].length) * 1≤140737488355328 then if(x2.length + [x3].length) * 8≤140737488355328 then some (.inl (x1++[(a0.getD x3.toNat 0)],x2++[x3],IntKind.i64.wrap (x3+1),x4)) else none else none else none
noncomputable def JcX(a0:List UInt8):((List UInt8)×(List Int)×Int×(List UInt8))→Option Yn
 | (x1,x2,x3,x4)=>if(ltI x3 (a0.length:Int))=true then if(0:Int)≤x3∧x3≤(a0.length:Int)∧(a0.length:Int)≤(a0.length:Int) then(JbJ (List.drop x3.toNat a0)).bind fun r1=>if(ltI 0 r1)=true then if(0:Int)≤x3∧x3≤(a0.length:Int)∧(a0.length:Int)≤(a0.length:Int) then(JbJ (List.drop x3.toNat a0)).bind fun r2=>some (.inl (x1,x2,IntKind.i64.wrap (x3+r2),x4)) else none else if(0:Int)≤x3∧x3.toNat<a0.length then if(eqI ((a0.getD x3.toNat 0).toNat:Int) 13)=true then if(ltI (IntKind.i64.wrap (x3+1)) (a0.length:Int))=true then if(0:Int)≤(IntKind.i64.wrap (x3+1))∧(IntKind.i64.wrap (x3+1)).toNat<a0.length then Jbu a0 x1 x2 x3 x4 (eqI ((a0.getD ((IntKind.i64.wrap (x3+1)).toNat) 0).toNat:Int) 10) else none else Jbu a0 x1 x2 x3 x4 false else Jbu a0 x1 x2 x3 x4 false else none else none else inrO (if(x2.length + [(a0.length:Int)].length) * 8≤140737488355328 then some (⟨x1,x2++[(a0.length:Int)]⟩:Spliced) else none)
noncomputable def JdY(a0:List UInt8):Option Spliced :=
 Jv (JcX a0) (([]:List UInt8),([]:List Int),0,[])
noncomputable def JgU:PF:=PF.of (E1 dS) (fun a=>JdY a) JM
theorem Jp2:JB Tryz.prog 47 JgU:=by
 refine xF mixed [(67,Jgw)] [] ⟨⟨JDk,JoS⟩,trivial⟩ trivial Tryz.func47 ?_
 rintro a0 out H
 have G:=True.intro
 have Y:=xZ y_3 <| xZ y_5 <| xZ y_9 <| xZ y_25 <| xZ y_55 <| xZ y_70 <| xZ Tryz.results47 <| JM.eq_1
 simp only[JdY]at H
 refine xS ?_
 refine xr ?_
 refine xr ?_
 refine xr ?_
 refine xr ?_
 refine JG (JcX a0) (fun s=>[(0,cS a0),(2,.c (.pt 1 0)),(3,.c (.sl 1 (List.map dU s.1) 2)),(4,.c (.sl 1 (List.map dI s.2.1) 3)),(5,cI s.2.2.1)]) (fun s=>[[kS s.2.2.2,.sl 1 [] 0]]) [5,3] H (xK ⟨[1],[0,0]⟩) ?_
 rintro n1 ⟨x1,x2,x3,x4⟩ o1 H hF1
 rw[JcX]at H
 refine xS ?_
 refine xr ?_
 rcases xB Y G H with⟨p,H,F,G,q⟩|⟨p,H,F,G,q⟩
 ·refine xT ?_
  obtain⟨g,H⟩:=Jc H
  obtain⟨r1,hr1,H⟩:=Ji H
  have F:=xC Y (Jjt (List.drop x3.toNat a0) r1 hr1)
  refine xR ?_
  rcases xB Y G H with⟨p,H,F,G,q⟩|⟨p,H,F,G,q⟩
  ·refine xT ?_
   obtain⟨g,H⟩:=Jc H
   obtain⟨r2,hr2,H⟩:=Ji H
   have F:=xC Y (Jjt (List.drop x3.toNat a0) r2 hr2)
   refine xR ?_
   exact Jw (JA H hF1) (xK ⟨[1],[2,3]⟩)
  refine xE0 ?_
  refine Jn (Jbu a0 x1 x2 x3 x4) (fun s=>[(0,cS a0),(2,.c (.pt 1 0)),(3,.c (.sl 1 (List.map dU x1) 2)),(4,.c (.sl 1 (List.map dI x2) 3)),(5,cI x3),(22,cB s)]) (fun s=>[[kS x4,.sl 1 [] 0]]) [5,3] o1 ?_ ?_
  ·obtain⟨g,H⟩:=Jc H
   rcases xB Y G H with⟨p,H,F,G,q⟩|⟨p,H,F,G,q⟩
   ·rcases xB F G H with⟨p,H,F,G,q⟩|⟨p,H,F,G,q⟩
    ·obtain⟨g,H⟩:=Jc H
     refine xR ?_
     exact Jb H (xK ⟨[1],[2,3]⟩)
    refine xR ?_
    exact Jb H (xK ⟨[1],[2,3]⟩)
   refine xR ?_
   exact Jb H (xK ⟨[1],[2,3]⟩)
  rintro x5 H
  rw[Jbu]at H
  rcases xB Y G H with⟨p,H,F,G,q⟩|⟨p,H,F,G,q⟩
  ·refine xT ?_
   refine xr ?_
   exact Jw (JA H hF1) (xK ⟨[1],[2,3]⟩)
  refine xE ?_
  obtain⟨g,H⟩:=Jc H
  obtain⟨g,H⟩:=Jc H
  have F:=xZ Y (JH JEp [(a0.getD x3.toNat 0)])
  obtain⟨g,H⟩:=Jc H
  have F:=xZ F (JH Jju [x3])
  refine xR ?_
  refine xr ?_
  exact Jw (JA H hF1) (xK ⟨[1],[4,5]⟩)
 replace H:=Jq H hF1
 refine xE ?_
 obtain⟨g,H⟩:=Jc H
 have F:=xZ Y (JH Jju [(a0.length:Int)])
 replace H:=oI H
 refine xR ?_
 subst H
 exact xN
theorem Jt6(a0:List UInt8)(r:Spliced)(H:JdY a0=some r):PC JgU [dS a0] (JM r):=PF.c (a:=a0) H
noncomputable def JaQ(a0:UInt8):Option Bool :=
 some (!eqI (a0.toNat:Int) 10)
noncomputable def JdE:PF:=PF.of (E1 dU) (fun a=>JaQ a) dB
theorem JjJ:JB Tryz.prog 69 JdE:=by
 refine xF mixed [] [] trivial trivial Tryz.func69 ?_
 rintro a0 out H
 have G:=True.intro
 have Y:=Tryz.results69
 simp only[JaQ]at H
 refine xS ?_
 refine xr ?_
 replace H:=oI H
 refine xr ?_
 subst H
 exact xN
theorem Jk1(a0:UInt8)(r:Bool)(H:JaQ a0=some r):PC JdE [dU a0] (dB r):=PF.c (a:=a0) H
noncomputable def Jad(x1:Int):Bool→Option (Int ⊕ Int)
 | x2=>if x2=true then some (.inl (IntKind.i64.wrap (x1+1))) else inrO (some x1)
noncomputable def Jcm(a1:List UInt8):Int→Option (Int ⊕ Int)
 | x1=>if(ltI x1 (a1.length:Int))=true then if(0:Int)≤x1∧x1.toNat<a1.length then(JaQ (a1.getD x1.toNat 0)).bind fun r1=>Jad x1 r1 else none else Jad x1 false
noncomputable def Jcz(a0:Int)(a1:List UInt8)(a2:List Int)(a3:List UInt8)(a4 a5:Int)(a6:List Token):Option Int :=
 Jv (Jcm a1) a0
def JcN(a0:Int)(a1:List UInt8)(a2:List Int)(a3:List UInt8)(a4 a5:Int)(a6:List Token)(r:Int):GI :=
 ⟨[.c (.pt 1 0),cI a0,.c (.d (.v (.func (.func 69) #[] #[])))],[[kS a1,.d (.sl 1 (List.map dI a2)),kS a3,kI a4,kI a5,.sl 11 (List.map Ja a6) 2]],[44],.ret (cI r) [[kS a1,.d (.sl 1 (List.map dI a2)),kS a3,kI a4,kI a5,.sl 11 (List.map Ja a6) 2]] [44]⟩
def JcO:GI→Prop:=Sg7 Jcz JcN
theorem Jlu:∀ g,JcO g→Jm Tryz.prog 68 g:=by
 rintro _ ⟨a0,a1,a2,a3,a4,a5,a6,r,H,rfl⟩
 refine xGn mixed [(69,JdE)] [] [] ⟨⟨JCR,JjJ⟩,trivial⟩ trivial trivial Tryz.func68 _ ?_
 have G:=True.intro
 have Y:=xZ y_9 <| xZ y_70 <| xZ y_99 <| xZ Tryz.results68 <| xZ Jl.eq_1 <| xZ Ja.eq_1 <| xZ JM.eq_1 <| JcN.eq_1
 dsimp only[JcN]
 simp only[Jcz]at H
 refine xS ?_
 refine xr ?_
 refine JG (Jcm a1) (fun s=>[(0,.c (.pt 1 0)),(1,cI s),(2,.c (.d (.v (.func (.func 69) #[] #[]))))]) (fun s=>[[kS a1,.d (.sl 1 (List.map dI a2)),kS a3,kI a4,kI a5,.sl 11 (List.map Ja a6) 2]]) [44] H (xK ⟨[1],[2]⟩) ?_
 rintro n1 x1 o1 H hF1
 rw[Jcm]at H
 refine Kf ?_
 refine Jn (Jad x1) (fun s=>[(0,.c (.pt 1 0)),(1,cI x1),(2,.c (.d (.v (.func (.func 69) #[] #[])))),(25,cB s)]) (fun s=>[[kS a1,.d (.sl 1 (List.map dI a2)),kS a3,kI a4,kI a5,.sl 11 (List.map Ja a6) 2]]) [44] o1 ?_ ?_
 ·rcases xB Y G H with⟨p,H,F,G,q⟩|⟨p,H,F,G,q⟩
  ·obtain⟨g,H⟩:=Jc H
   obtain⟨r1,hr1,H⟩:=Ji H
   have F:=xCf F (Jk1 (a1.getD x1.toNat 0) r1 hr1)
   refine xR ?_
   exact Jb H (xK ⟨[1],[2]⟩)
  refine xR ?_
  exact Jb H (xK ⟨[1],[2]⟩)
 rintro x2 H
 rw[Jad]at H
 rcases xB Y G H with⟨p,H,F,G,q⟩|⟨p,H,F,G,q⟩
 ·refine xT ?_
  refine xr ?_
  exact Jw (JA H hF1) (xK ⟨[1],[2]⟩)
 replace H:=Jq H hF1
 refine xE ?_
 replace H:=oI H
 refine xr ?_
 subst H
 refine xOr ?_
 refine qDf [] ?_
 exact xO ⟨[1],[2]⟩
theorem Jm4:Jd Tryz.prog 68∧(∀ g,JcO g→Jm Tryz.prog 68 g)∧(true=true→∀ g,JcO g→∃ val bs ts,g.out=.ret val bs ts) :=
 ⟨JpY,Jlu,fun _=>by rintro _ ⟨_,_,_,_,_,_,_,_,_,rfl⟩; exact⟨_,_,_,rfl⟩⟩
noncomputable def Vu:(Bool×Int)→Option Ys
 | (x4,x5)=>some (.inl (true,x4,x5))
noncomputable def Jaa(x3:Int):Bool→Option Ys
 | x8=>Vu (x8,IntKind.i64.wrap (x3+1))
noncomputable def ZW(a0:List UInt8)(x1 x2:Bool)(x3 x12:Int):Bool→Option Yr
 | x13=>if x13=true then some (.inl (IntKind.i64.wrap (x12+1))) else inrO (if(leI (a0.length:Int) (IntKind.i64.wrap (x12+1)))=true then inrO (some (x1,x2,false,x3)) else Vu (x2,IntKind.i64.wrap (x12+2)))
noncomputable def Z9(a0:List UInt8)(x1 x2:Bool)(x3:Int):Int→Option Yr
 | x12=>if(ltI (IntKind.i64.wrap (x12+1)) (a0.length:Int))=true then if(0:Int)≤x12∧x12≤(IntKind.i64.wrap (x12+2))∧(IntKind.i64.wrap (x12+2))≤(a0.length:Int) then ZW a0 x1 x2 x3 x12 (!eqS (List.take ((IntKind.i64.wrap (x12+2)).toNat-x12.toNat) (List.drop x12.toNat a0)) [42,47]) else none else ZW a0 x1 x2 x3 x12 false
noncomputable def Xr(a0:List UInt8)(x1 x2:Bool)(x3:Int):Bool→Option Ys
 | x11=>if x11=true then Jv (Z9 a0 x1 x2 x3) (IntKind.i64.wrap (x3+2)) else inrO (some (x1,x2,true,x3))
noncomputable def Xp(a0:List UInt8)(a1:List Int)(a2:List UInt8)(a3:Int)(a5:List Token)(x1 x2:Bool)(x3:Int):Ya1→Option Ys
 | (x9,x10)=>if x10=true then(Jcz x3 a0 a1 a2 a3 x3 a5).bind fun r1=>Vu (x2,r1) else if(eqI (x9.toNat:Int) 47)=true then if(ltI (IntKind.i64.wrap (x3+1)) (a0.length:Int))=true then if(0:Int)≤(IntKind.i64.wrap (x3+1))∧(IntKind.i64.wrap (x3+1)).toNat<a0.length then Xr a0 x1 x2 x3 (eqI ((a0.getD ((IntKind.i64.wrap (x3+1)).toNat) 0).toNat:Int) 42) else none else Xr a0 x1 x2 x3 false else Xr a0 x1 x2 x3 false
noncomputable def KY(a0:List UInt8)(a1:List Int)(a2:List UInt8)(a3:Int)(a5:List Token)(x1 x2:Bool)(x3:Int):Ya1→Option Ys
 | (x6,x7)=>if x7=true then if x2=true then Jaa x3 true else Jaa x3 (eqI (x6.toNat:Int) 10) else if(eqI (x6.toNat:Int) 47)=true then if(ltI (IntKind.i64.wrap (x3+1)) (a0.length:Int))=true then if(0:Int)≤(IntKind.i64.wrap (x3+1))∧(IntKind.i64.wrap (x3+1)).toNat<a0.length then Xp a0 a1 a2 a3 a5 x1 x2 x3 (x6,eqI ((a0.getD ((IntKind.i64.wrap (x3+1)).toNat) 0).toNat:Int) 47) else none else Xp a0 a1 a2 a3 a5 x1 x2 x3 (x6,false) else Xp a0 a1 a2 a3 a5 x1 x2 x3 (x6,false)
noncomputable def K3(a0:List UInt8)(a1:List Int)(a2:List UInt8)(a3:Int)(a5:List Token):(Bool×Bool×Int)→Option Ys
 | (x1,x2,x3)=>if(ltI x3 (a0.length:Int))=true then if(0:Int)≤x3∧x3.toNat<a0.length then if(eqI ((a0.getD x3.toNat 0).toNat:Int) 32)=true then KY a0 a1 a2 a3 a5 x1 x2 x3 ((a0.getD x3.toNat 0),true) else if(eqI ((a0.getD x3.toNat 0).toNat:Int) 9)=true then KY a0 a1 a2 a3 a5 x1 x2 x3 ((a0.getD x3.toNat 0),true) else if(eqI ((a0.getD x3.toNat 0).toNat:Int) 10)=true then KY a0 a1 a2 a3 a5 x1 x2 x3 ((a0.getD x3.toNat 0),true) else KY a0 a1 a2 a3 a5 x1 x2 x3 ((a0.getD x3.toNat 0),eqI ((a0.getD x3.toNat 0).toNat:Int) 13) else none else inrO (some (x1,x2,true,x3))
noncomputable def Jef(a0:List UInt8)(a1:List Int)(a2:List UInt8)(a3 a4:Int)(a5:List Token):Option YI :=
 Jv (K3 a0 a1 a2 a3 a5) (false,false,a4)
def JcK(a0:List UInt8)(a1:List Int)(a2:List UInt8)(a3 a4:Int)(a5:List Token)(r:YI):GI :=
 ⟨[.c (.pt 1 0)],[[kS a0,.d (.sl 1 (List.map dI a1)),kS a2,kI a3,kI a4,.sl 11 (List.map Ja a5) 2]],[44],.ret (.tu [(false,[kB r.1]),(false,[kB r.2.1]),(false,[kB r.2.2.1])]) [[kS a0,.d (.sl 1 (List.map dI a1)),kS a2,kI a3,kI r.2.2.2,.sl 11 (List.map Ja a5) 2]] [44]⟩
def JcQ:GI→Prop:=Sg6 Jef JcK
theorem JlB:∀ g,JcQ g→Jm Tryz.prog 48 g:=by
 rintro _ ⟨a0,a1,a2,a3,a4,a5,r,H,rfl⟩
 refine xGn mixed [] [(68,true,JcO)] [] trivial ⟨Jm4,trivial⟩ trivial Tryz.func48 _ ?_
 have G:=True.intro
 have Y:=xZ y_3 <| xZ y_9 <| xZ y_70 <| xZ y_99 <| xZ Tryz.results48 <| xZ Jl.eq_1 <| xZ Ja.eq_1 <| xZ JM.eq_1 <| xZ JcN.eq_1 <| JcK.eq_1
 dsimp only[JcK]
 simp only[Jef]at H
 refine xS ?_
 refine xr ?_
 refine xr ?_
 refine JG (K3 a0 a1 a2 a3 a5) (fun s=>[(0,.c (.pt 1 0)),(2,cB s.1),(3,cB s.2.1),(5,cS a0)]) (fun s=>[[kS a0,.d (.sl 1 (List.map dI a1)),kS a2,kI a3,kI s.2.2,.sl 11 (List.map Ja a5) 2]]) [44] H (xK ⟨[1],[2]⟩) ?_
 rintro n1 ⟨x1,x2,x3⟩ o1 H hF1
 rw[K3]at H
 refine xS ?_
 refine xr ?_
 rcases xB Y G H with⟨p,H,F,G,q⟩|⟨p,H,F,G,q⟩
 ·refine xT0 ?_
  refine VA ?_
  refine Jj ?_
  refine Jag ?_
  refine Jn Vu (fun s=>[(0,.c (.pt 1 0)),(3,cB s.1),(5,cS a0)]) (fun s=>[[kS a0,.d (.sl 1 (List.map dI a1)),kS a2,kI a3,kI s.2,.sl 11 (List.map Ja a5) 2]]) [44] o1 ?_ ?_
  ·refine xS ?_
   obtain⟨g,H⟩:=Jc H
   refine xr0 ?_
   refine Jj ?_
   refine Jag ?_
   refine Jn (KY a0 a1 a2 a3 a5 x1 x2 x3) (fun s=>[(0,.c (.pt 1 0)),(2,cB x1),(3,cB x2),(5,cS a0),(6,.c (.d (.v (.int .u8 (s.1.toNat:Int))))),(28,cB s.2)]) (fun s=>[[kS a0,.d (.sl 1 (List.map dI a1)),kS a2,kI a3,kI x3,.sl 11 (List.map Ja a5) 2]]) [44] o1 ?_ ?_
   ·rcases xB Y G H with⟨p,H,F,G,q⟩|⟨p,H,F,G,q⟩
    ·refine xR ?_
     exact Jb H (xK ⟨[1],[2]⟩)
    rcases xB F G H with⟨p,H,F,G,q⟩|⟨p,H,F,G,q⟩
    ·refine xR ?_
     exact Jb H (xK ⟨[1],[2]⟩)
    rcases xB F G H with⟨p,H,F,G,q⟩|⟨p,H,F,G,q⟩
    ·refine xR ?_
     exact Jb H (xK ⟨[1],[2]⟩)
    refine xR ?_
    exact Jb H (xK ⟨[1],[2]⟩)
   rintro ⟨x6,x7⟩ H
   rw[KY]at H
   rcases xB Y G H with⟨p,H,F,G,q⟩|⟨p,H,F,G,q⟩
   ·refine xT0 ?_
    refine Jn (Jaa x3) (fun s=>[(0,.c (.pt 1 0)),(3,cB s),(5,cS a0)]) (fun s=>[[kS a0,.d (.sl 1 (List.map dI a1)),kS a2,kI a3,kI x3,.sl 11 (List.map Ja a5) 2]]) [44] o1 ?_ ?_
    ·rcases xB Y G H with⟨p,H,F,G,q⟩|⟨p,H,F,G,q⟩
     ·refine xR ?_
      exact Jb H (xK ⟨[1],[2]⟩)
     refine xR ?_
     exact Jb H (xK ⟨[1],[2]⟩)
    rintro x8 H
    rw[Jaa]at H
    refine xr ?_
    exact Jb H (xK ⟨[1],[2]⟩)
   refine xE0 ?_
   refine Jn (Xp a0 a1 a2 a3 a5 x1 x2 x3) (fun s=>[(0,.c (.pt 1 0)),(2,cB x1),(3,cB x2),(5,cS a0),(6,.c (.d (.v (.int .u8 (s.1.toNat:Int))))),(55,cB s.2)]) (fun s=>[[kS a0,.d (.sl 1 (List.map dI a1)),kS a2,kI a3,kI x3,.sl 11 (List.map Ja a5) 2]]) [44] o1 ?_ ?_
   ·rcases xB Y G H with⟨p,H,F,G,q⟩|⟨p,H,F,G,q⟩
    ·rcases xB F G H with⟨p,H,F,G,q⟩|⟨p,H,F,G,q⟩
     ·obtain⟨g,H⟩:=Jc H
      refine xR ?_
      exact Jb H (xK ⟨[1],[2]⟩)
     refine xR ?_
     exact Jb H (xK ⟨[1],[2]⟩)
    refine xR ?_
    exact Jb H (xK ⟨[1],[2]⟩)
   rintro ⟨x9,x10⟩ H
   rw[Xp]at H
   rcases xB Y G H with⟨p,H,F,G,q⟩|⟨p,H,F,G,q⟩
   ·refine xT ?_
    obtain⟨r1,hr1,H⟩:=Ji H
    have F:=Y
    refine xQ ?_
    refine xs 6 ?_
    refine xc ⟨[1],[2]⟩ (tabG 0 (cg7 hr1)) ?_
    refine xs 3 ?_
    refine xl ?_
    refine xS ?_
    exact Jb H (xK ⟨[1],[4]⟩)
   refine xE0 ?_
   refine Jn (Xr a0 x1 x2 x3) (fun s=>[(0,.c (.pt 1 0)),(2,cB x1),(3,cB x2),(5,cS a0),(87,cB s)]) (fun s=>[[kS a0,.d (.sl 1 (List.map dI a1)),kS a2,kI a3,kI x3,.sl 11 (List.map Ja a5) 2]]) [44] o1 ?_ ?_
   ·rcases xB Y G H with⟨p,H,F,G,q⟩|⟨p,H,F,G,q⟩
    ·rcases xB F G H with⟨p,H,F,G,q⟩|⟨p,H,F,G,q⟩
     ·obtain⟨g,H⟩:=Jc H
      refine xR ?_
      exact Jb H (xK ⟨[1],[2]⟩)
     refine xR ?_
     exact Jb H (xK ⟨[1],[2]⟩)
    refine xR ?_
    exact Jb H (xK ⟨[1],[2]⟩)
   rintro x11 H
   rw[Xr]at H
   rcases xB Y G H with⟨p,H,F,G,q⟩|⟨p,H,F,G,q⟩
   ·refine xT ?_
    refine xr ?_
    refine JG (Z9 a0 x1 x2 x3) (fun s=>[(0,.c (.pt 1 0)),(2,cB x1),(3,cB x2),(5,cS a0),(7,cI s)]) (fun s=>[[kS a0,.d (.sl 1 (List.map dI a1)),kS a2,kI a3,kI x3,.sl 11 (List.map Ja a5) 2]]) [44] H (xK ⟨[1],[2]⟩) ?_
    rintro n2 x12 o2 H hF2
    rw[Z9]at H
    refine Kf ?_
    refine Jn (ZW a0 x1 x2 x3 x12) (fun s=>[(0,.c (.pt 1 0)),(2,cB x1),(3,cB x2),(5,cS a0),(7,cI x12),(127,cB s)]) (fun s=>[[kS a0,.d (.sl 1 (List.map dI a1)),kS a2,kI a3,kI x3,.sl 11 (List.map Ja a5) 2]]) [44] o2 ?_ ?_
    ·rcases xB Y G H with⟨p,H,F,G,q⟩|⟨p,H,F,G,q⟩
     ·obtain⟨g,H⟩:=Jc H
      refine xR ?_
      exact Jb H (xK ⟨[1],[2]⟩)
     refine xR ?_
     exact Jb H (xK ⟨[1],[2]⟩)
    rintro x13 H
    rw[ZW]at H
    rcases xB Y G H with⟨p,H,F,G,q⟩|⟨p,H,F,G,q⟩
    ·refine xT ?_
     refine xr ?_
     exact Jw (JA H hF2) (xK ⟨[1],[2]⟩)
    replace H:=Jq H hF2
    refine xE ?_
    refine xr ?_
    rcases xB Y G H with⟨p,H,F,G,q⟩|⟨p,H,F,G,q⟩
    ·refine xT ?_
     replace H:=Jq H hF1
     replace H:=oI H
     refine xr ?_
     subst H
     refine xOr ?_
     refine qDf [] ?_
     exact xO ⟨[1],[2]⟩
    refine xE ?_
    refine xr ?_
    exact Jb H (xK ⟨[1],[2]⟩)
   refine xE ?_
   replace H:=Jq H hF1
   replace H:=oI H
   refine xr ?_
   subst H
   refine xOr ?_
   refine qDf [] ?_
   exact xO ⟨[1],[2]⟩
  rintro ⟨x4,x5⟩ H
  rw[Vu]at H
  refine xr ?_
  exact Jw (JA H hF1) (xK ⟨[1],[2]⟩)
 replace H:=Jq H hF1
 refine xE ?_
 replace H:=oI H
 refine xr ?_
 subst H
 refine xOr ?_
 refine qDf [] ?_
 exact xO ⟨[1],[2]⟩
theorem Jnh:Jd Tryz.prog 48∧(∀ g,JcQ g→Jm Tryz.prog 48 g)∧(true=true→∀ g,JcQ g→∃ val bs ts,g.out=.ret val bs ts) :=
 ⟨JDM,JlB,fun _=>by rintro _ ⟨_,_,_,_,_,_,_,_,rfl⟩; exact⟨_,_,_,rfl⟩⟩
noncomputable def JcC(a0:Spliced)(a1:Int):Bool→Option Int
 | x1=>if x1=true then some (-1) else if(0:Int)≤a1∧a1.toNat<a0.At.length then some (a0.At.getD a1.toNat default) else none
noncomputable def XV(a0:Spliced)(a1:Int):Option Int :=
 if(ltI a1 0)=true then JcC a0 a1 true else JcC a0 a1 (leI (a0.At.length:Int) a1)
noncomputable def Jgz:PF:=PF.of (E2 JM dI) (fun a=>XV a.1 a.2) dI
theorem JoB:JB Tryz.prog 49 Jgz:=by
 refine xF mixed [] [] trivial trivial Tryz.func49 ?_
 rintro ⟨a0,a1⟩ out H
 have G:=True.intro
 have Y:=xZ y_3 <| xZ y_25 <| xZ y_70 <| xZ Tryz.results49 <| JM.eq_1
 simp only[XV]at H
 refine xS ?_
 refine xr0 ?_
 refine Jj ?_
 refine Kf ?_
 refine Jn (JcC a0 a1) (fun s=>[(1,cI a1),(2,.c (.pt 1 0)),(13,cB s)]) (fun s=>[[kS a0.Text,.d (.sl 1 (List.map dI a0.At))]]) [] out ?_ ?_
 ·rcases xB Y G H with⟨p,H,F,G,q⟩|⟨p,H,F,G,q⟩
  ·refine xR ?_
   exact Jb H (xK ⟨[1],[]⟩)
  refine xR ?_
  exact Jb H (xK ⟨[1],[]⟩)
 rintro x1 H
 rw[JcC]at H
 rcases xB Y G H with⟨p,H,F,G,q⟩|⟨p,H,F,G,q⟩
 ·refine xT ?_
  replace H:=oI H
  refine xr ?_
  subst H
  exact xN
 refine xE ?_
 obtain⟨g,H⟩:=Jc H
 have F:=xZ Y (Jh dI a0.At a1.toNat default default (by omega))
 replace H:=oI H
 refine xR ?_
 subst H
 exact xN
theorem Jg4(a0:Spliced)(a1 r:Int)(H:XV a0 a1=some r):PC Jgz [JM a0,dI a1] (dI r):=PF.c (a:=(a0,a1)) H
noncomputable def VK:Bool→Option Bool
 | x1=>some x1
noncomputable def Jcq(a0:UInt8):Option Bool :=
 if(leI 97 (a0.toNat:Int))=true then if(leI (a0.toNat:Int) 122)=true then VK true else if(leI 65 (a0.toNat:Int))=true then if(leI (a0.toNat:Int) 90)=true then VK true else VK (eqI (a0.toNat:Int) 95) else VK (eqI (a0.toNat:Int) 95) else if(leI 65 (a0.toNat:Int))=true then if(leI (a0.toNat:Int) 90)=true then VK true else VK (eqI (a0.toNat:Int) 95) else VK (eqI (a0.toNat:Int) 95)
noncomputable def JdW:PF:=PF.of (E1 dU) (fun a=>Jcq a) dB
theorem JhC:JB Tryz.prog 70 JdW:=by
 refine xF mixed [] [] trivial trivial Tryz.func70 ?_
 rintro a0 out H
 have G:=True.intro
 have Y:=Tryz.results70
 simp only[Jcq]at H
 refine xS ?_
 refine xr0 ?_
 refine Jj ?_
 refine Jn VK (fun s=>[(2,cB s)]) (fun s=>[]) [] out ?_ ?_
 ·rcases xB Y G H with⟨p,H,F,G,q⟩|⟨p,H,F,G,q⟩
  ·rcases xB F G H with⟨p,H,F,G,q⟩|⟨p,H,F,G,q⟩
   ·refine xR ?_
    exact Jb H (xK ⟨[],[]⟩)
   rcases xB F G H with⟨p,H,F,G,q⟩|⟨p,H,F,G,q⟩
   ·rcases xB F G H with⟨p,H,F,G,q⟩|⟨p,H,F,G,q⟩
    ·refine xR ?_
     exact Jb H (xK ⟨[],[]⟩)
    refine xR ?_
    exact Jb H (xK ⟨[],[]⟩)
   refine xR ?_
   exact Jb H (xK ⟨[],[]⟩)
  rcases xB F G H with⟨p,H,F,G,q⟩|⟨p,H,F,G,q⟩
  ·rcases xB F G H with⟨p,H,F,G,q⟩|⟨p,H,F,G,q⟩
   ·refine xR ?_
    exact Jb H (xK ⟨[],[]⟩)
   refine xR ?_
   exact Jb H (xK ⟨[],[]⟩)
  refine xR ?_
  exact Jb H (xK ⟨[],[]⟩)
 rintro x1 H
 rw[VK]at H
 replace H:=oI H
 refine xS ?_
 subst H
 exact xN
theorem JiA(a0:UInt8)(r:Bool)(H:Jcq a0=some r):PC JdW [dU a0] (dB r):=PF.c (a:=a0) H
noncomputable def Jei:Bool→Option Bool
 | x1=>some x1
noncomputable def Jcx(a0:UInt8):Option Bool :=
 if(leI 48 (a0.toNat:Int))=true then Jei (leI (a0.toNat:Int) 57) else Jei false
noncomputable def Jes:PF:=PF.of (E1 dU) (fun a=>Jcx a) dB
theorem Jiy:JB Tryz.prog 72 Jes:=by
 refine xF mixed [] [] trivial trivial Tryz.func72 ?_
 rintro a0 out H
 have G:=True.intro
 have Y:=Tryz.results72
 simp only[Jcx]at H
 refine xS ?_
 refine xr0 ?_
 refine Jj ?_
 refine Jn Jei (fun s=>[(2,cB s)]) (fun s=>[]) [] out ?_ ?_
 ·rcases xB Y G H with⟨p,H,F,G,q⟩|⟨p,H,F,G,q⟩
  ·refine xR ?_
   exact Jb H (xK ⟨[],[]⟩)
  refine xR ?_
  exact Jb H (xK ⟨[],[]⟩)
 rintro x1 H
 rw[Jei]at H
 replace H:=oI H
 refine xS ?_
 subst H
 exact xN
theorem Jg6(a0:UInt8)(r:Bool)(H:Jcx a0=some r):PC Jes [dU a0] (dB r):=PF.c (a:=a0) H
noncomputable def Z6:Bool→Option Bool
 | x1=>some x1
noncomputable def Jat(a0:UInt8):Option Bool :=
 (Jcq a0).bind fun r1=>if r1=true then Z6 true else(Jcx a0).bind fun r2=>Z6 r2
noncomputable def Jer:PF:=PF.of (E1 dU) (fun a=>Jat a) dB
theorem Jlf:JB Tryz.prog 71 Jer:=by
 refine xF mixed [(70,JdW),(72,Jes)] [] ⟨⟨Jqi,JhC⟩,⟨Jqt,Jiy⟩,trivial⟩ trivial Tryz.func71 ?_
 rintro a0 out H
 have G:=True.intro
 have Y:=Tryz.results71
 simp only[Jat]at H
 refine xS ?_
 refine xr0 ?_
 refine Jj ?_
 refine Jn Z6 (fun s=>[(2,cB s)]) (fun s=>[]) [] out ?_ ?_
 ·obtain⟨r1,hr1,H⟩:=Ji H
  have F:=xC Y (JiA a0 r1 hr1)
  rcases xB F G H with⟨p,H,F,G,q⟩|⟨p,H,F,G,q⟩
  ·refine xR ?_
   exact Jb H (xK ⟨[],[]⟩)
  obtain⟨r2,hr2,H⟩:=Ji H
  have F:=xCf F (Jg6 a0 r2 hr2)
  refine xR ?_
  exact Jb H (xK ⟨[],[]⟩)
 rintro x1 H
 rw[Z6]at H
 replace H:=oI H
 refine xS ?_
 subst H
 exact xN
theorem Jnc(a0:UInt8)(r:Bool)(H:Jat a0=some r):PC Jer [dU a0] (dB r):=PF.c (a:=a0) H
noncomputable def Xy(x1:Int):Bool→Option (Int ⊕ Int)
 | x2=>if x2=true then some (.inl (IntKind.i64.wrap (x1+1))) else inrO (some x1)
noncomputable def Jap(a1:List UInt8):Int→Option (Int ⊕ Int)
 | x1=>if(ltI x1 (a1.length:Int))=true then if(0:Int)≤x1∧x1.toNat<a1.length then(Jat (a1.getD x1.toNat 0)).bind fun r1=>Xy x1 r1 else none else Xy x1 false
noncomputable def Z0(a0:Int)(a1:List UInt8)(a2:List Int)(a3:List UInt8)(a4 a5:Int)(a6:List Token):Option Int :=
 Jv (Jap a1) a0
def Jbm(a0:Int)(a1:List UInt8)(a2:List Int)(a3:List UInt8)(a4 a5:Int)(a6:List Token)(r:Int):GI :=
 ⟨[.c (.pt 1 0),cI a0,.c (.d (.v (.func (.func 71) #[] #[])))],[[kS a1,.d (.sl 1 (List.map dI a2)),kS a3,kI a4,kI a5,.sl 11 (List.map Ja a6) 2]],[44],.ret (cI r) [[kS a1,.d (.sl 1 (List.map dI a2)),kS a3,kI a4,kI a5,.sl 11 (List.map Ja a6) 2]] [44]⟩
def Jbk:GI→Prop:=Sg7 Z0 Jbm
theorem JjG:∀ g,Jbk g→Jm Tryz.prog 68 g:=by
 rintro _ ⟨a0,a1,a2,a3,a4,a5,a6,r,H,rfl⟩
 refine xGn mixed [(71,Jer)] [] [] ⟨⟨JDL,Jlf⟩,trivial⟩ trivial trivial Tryz.func68 _ ?_
 have G:=True.intro
 have Y:=xZ y_9 <| xZ y_70 <| xZ y_99 <| xZ Tryz.results68 <| xZ Jl.eq_1 <| xZ Ja.eq_1 <| xZ JM.eq_1 <| Jbm.eq_1
 dsimp only[Jbm]
 simp only[Z0]at H
 refine xS ?_
 refine xr ?_
 refine JG (Jap a1) (fun s=>[(0,.c (.pt 1 0)),(1,cI s),(2,.c (.d (.v (.func (.func 71) #[] #[]))))]) (fun s=>[[kS a1,.d (.sl 1 (List.map dI a2)),kS a3,kI a4,kI a5,.sl 11 (List.map Ja a6) 2]]) [44] H (xK ⟨[1],[2]⟩) ?_
 rintro n1 x1 o1 H hF1
 rw[Jap]at H
 refine Kf ?_
 refine Jn (Xy x1) (fun s=>[(0,.c (.pt 1 0)),(1,cI x1),(2,.c (.d (.v (.func (.func 71) #[] #[])))),(25,cB s)]) (fun s=>[[kS a1,.d (.sl 1 (List.map dI a2)),kS a3,kI a4,kI a5,.sl 11 (List.map Ja a6) 2]]) [44] o1 ?_ ?_
 ·rcases xB Y G H with⟨p,H,F,G,q⟩|⟨p,H,F,G,q⟩
  ·obtain⟨g,H⟩:=Jc H
   obtain⟨r1,hr1,H⟩:=Ji H
   have F:=xCf F (Jnc (a1.getD x1.toNat 0) r1 hr1)
   refine xR ?_
   exact Jb H (xK ⟨[1],[2]⟩)
  refine xR ?_
  exact Jb H (xK ⟨[1],[2]⟩)
 rintro x2 H
 rw[Xy]at H
 rcases xB Y G H with⟨p,H,F,G,q⟩|⟨p,H,F,G,q⟩
 ·refine xT ?_
  refine xr ?_
  exact Jw (JA H hF1) (xK ⟨[1],[2]⟩)
 replace H:=Jq H hF1
 refine xE ?_
 replace H:=oI H
 refine xr ?_
 subst H
 refine xOr ?_
 refine qDf [] ?_
 exact xO ⟨[1],[2]⟩
theorem JjZ:Jd Tryz.prog 68∧(∀ g,Jbk g→Jm Tryz.prog 68 g)∧(true=true→∀ g,Jbk g→∃ val bs ts,g.out=.ret val bs ts) :=
 ⟨JpY,JjG,fun _=>by rintro _ ⟨_,_,_,_,_,_,_,_,_,rfl⟩; exact⟨_,_,_,rfl⟩⟩
noncomputable def Zs(x1:Int):Unit→Option (Int ⊕ Int)
 | ()=>some (.inl (IntKind.i64.wrap (x1+1)))
noncomputable def V2(x1:Int):Bool→Option (Int ⊕ Int)
 | x4=>if x4=true then inrO (some x1) else Zs x1 ()
noncomputable def J2(x1:Int):Ya1→Option (Int ⊕ Int)
 | (x2,x3)=>if x3=true then Zs x1 () else if(!eqI (x2.toNat:Int) 46)=true then(Jcq x2).bind fun r1=>if(!r1)=true then(Jcx x2).bind fun r2=>V2 x1 (!r2) else V2 x1 false else V2 x1 false
noncomputable def Zu(a0:List UInt8)(a4:Int):Int→Option (Int ⊕ Int)
 | x1=>if(ltI x1 (a0.length:Int))=true then if(0:Int)≤x1∧x1.toNat<a0.length then if(eqI ((a0.getD x1.toNat 0).toNat:Int) 43)=true then if(ltI a4 x1)=true then if(0:Int)≤(IntKind.i64.wrap (x1-1))∧(IntKind.i64.wrap (x1-1)).toNat<a0.length then if(eqI ((a0.getD ((IntKind.i64.wrap (x1-1)).toNat) 0).toNat:Int) 101)=true then J2 x1 ((a0.getD x1.toNat 0),true) else if(0:Int)≤(IntKind.i64.wrap (x1-1))∧(IntKind.i64.wrap (x1-1)).toNat<a0.length then J2 x1 ((a0.getD x1.toNat 0),eqI ((a0.getD ((IntKind.i64.wrap (x1-1)).toNat) 0).toNat:Int) 69) else none else none else J2 x1 ((a0.getD x1.toNat 0),false) else if(eqI ((a0.getD x1.toNat 0).toNat:Int) 45)=true then if(ltI a4 x1)=true then if(0:Int)≤(IntKind.i64.wrap (x1-1))∧(IntKind.i64.wrap (x1-1)).toNat<a0.length then if(eqI ((a0.getD ((IntKind.i64.wrap (x1-1)).toNat) 0).toNat:Int) 101)=true then J2 x1 ((a0.getD x1.toNat 0),true) else if(0:Int)≤(IntKind.i64.wrap (x1-1))∧(IntKind.i64.wrap (x1-1)).toNat<a0.length then J2 x1 ((a0.getD x1.toNat 0),eqI ((a0.getD ((IntKind.i64.wrap (x1-1)).toNat) 0).toNat:Int) 69) else none else none else J2 x1 ((a0.getD x1.toNat 0),false) else J2 x1 ((a0.getD x1.toNat 0),false) else none else inrO (some x1)
noncomputable def JbO(a0:List UInt8)(a1:List Int)(a2:List UInt8)(a3 a4:Int)(a5:List Token):Option Int :=
 Jv (Zu a0 a4) a4
def Jce(a0:List UInt8)(a1:List Int)(a2:List UInt8)(a3 a4:Int)(a5:List Token)(r:Int):GI :=
 ⟨[.c (.pt 1 0)],[[kS a0,.d (.sl 1 (List.map dI a1)),kS a2,kI a3,kI a4,.sl 11 (List.map Ja a5) 2]],[44],.ret (cI r) [[kS a0,.d (.sl 1 (List.map dI a1)),kS a2,kI a3,kI a4,.sl 11 (List.map Ja a5) 2]] [44]⟩
def JcD:GI→Prop:=Sg6 JbO Jce
theorem Jk0:∀ g,JcD g→Jm Tryz.prog 73 g:=by
 rintro _ ⟨a0,a1,a2,a3,a4,a5,r,H,rfl⟩
 refine xGn mixed [(70,JdW),(72,Jes)] [] [] ⟨⟨Jqi,JhC⟩,⟨Jqt,Jiy⟩,trivial⟩ trivial trivial Tryz.func73 _ ?_
 have G:=True.intro
 have Y:=xZ y_3 <| xZ y_9 <| xZ y_70 <| xZ y_99 <| xZ Tryz.results73 <| xZ Jl.eq_1 <| xZ Ja.eq_1 <| xZ JM.eq_1 <| Jce.eq_1
 dsimp only[Jce]
 simp only[JbO]at H
 refine xS ?_
 refine xr ?_
 refine xr ?_
 refine xr ?_
 refine JG (Zu a0 a4) (fun s=>[(0,.c (.pt 1 0)),(3,cS a0),(4,cI s)]) (fun s=>[[kS a0,.d (.sl 1 (List.map dI a1)),kS a2,kI a3,kI a4,.sl 11 (List.map Ja a5) 2]]) [44] H (xK ⟨[1],[2]⟩) ?_
 rintro n1 x1 o1 H hF1
 rw[Zu]at H
 refine xS ?_
 refine xr ?_
 rcases xB Y G H with⟨p,H,F,G,q⟩|⟨p,H,F,G,q⟩
 ·refine xT0 ?_
  refine VA ?_
  refine Jj ?_
  refine Jag ?_
  refine Jn (Zs x1) (fun s=>[(0,.c (.pt 1 0)),(3,cS a0),(4,cI x1)]) (fun s=>[[kS a0,.d (.sl 1 (List.map dI a1)),kS a2,kI a3,kI a4,.sl 11 (List.map Ja a5) 2]]) [44] o1 ?_ ?_
  ·refine xS ?_
   obtain⟨g,H⟩:=Jc H
   refine xr0 ?_
   refine Jj ?_
   refine Jag ?_
   refine Jn (J2 x1) (fun s=>[(0,.c (.pt 1 0)),(3,cS a0),(4,cI x1),(5,.c (.d (.v (.int .u8 (s.1.toNat:Int))))),(22,cB s.2)]) (fun s=>[[kS a0,.d (.sl 1 (List.map dI a1)),kS a2,kI a3,kI a4,.sl 11 (List.map Ja a5) 2]]) [44] o1 ?_ ?_
   ·rcases xB Y G H with⟨p,H,F,G,q⟩|⟨p,H,F,G,q⟩
    ·rcases xB F G H with⟨p,H,F,G,q⟩|⟨p,H,F,G,q⟩
     ·obtain⟨g,H⟩:=Jc H
      rcases xB F G H with⟨p,H,F,G,q⟩|⟨p,H,F,G,q⟩
      ·refine xR ?_
       exact Jb H (xK ⟨[1],[2]⟩)
      obtain⟨g,H⟩:=Jc H
      refine xR ?_
      exact Jb H (xK ⟨[1],[2]⟩)
     refine xR ?_
     exact Jb H (xK ⟨[1],[2]⟩)
    rcases xB F G H with⟨p,H,F,G,q⟩|⟨p,H,F,G,q⟩
    ·rcases xB F G H with⟨p,H,F,G,q⟩|⟨p,H,F,G,q⟩
     ·obtain⟨g,H⟩:=Jc H
      rcases xB F G H with⟨p,H,F,G,q⟩|⟨p,H,F,G,q⟩
      ·refine xR ?_
       exact Jb H (xK ⟨[1],[2]⟩)
      obtain⟨g,H⟩:=Jc H
      refine xR ?_
      exact Jb H (xK ⟨[1],[2]⟩)
     refine xR ?_
     exact Jb H (xK ⟨[1],[2]⟩)
    refine xR ?_
    exact Jb H (xK ⟨[1],[2]⟩)
   rintro ⟨x2,x3⟩ H
   rw[J2]at H
   rcases xB Y G H with⟨p,H,F,G,q⟩|⟨p,H,F,G,q⟩
   ·refine xT ?_
    exact Jb H (xK ⟨[1],[2]⟩)
   refine xE0 ?_
   refine Jn (V2 x1) (fun s=>[(0,.c (.pt 1 0)),(3,cS a0),(4,cI x1),(51,cB s)]) (fun s=>[[kS a0,.d (.sl 1 (List.map dI a1)),kS a2,kI a3,kI a4,.sl 11 (List.map Ja a5) 2]]) [44] o1 ?_ ?_
   ·rcases xB Y G H with⟨p,H,F,G,q⟩|⟨p,H,F,G,q⟩
    ·obtain⟨r1,hr1,H⟩:=Ji H
     have F:=xCf F (JiA x2 r1 hr1)
     rcases xB F G H with⟨p,H,F,G,q⟩|⟨p,H,F,G,q⟩
     ·obtain⟨r2,hr2,H⟩:=Ji H
      have F:=xCf F (Jg6 x2 r2 hr2)
      refine xR ?_
      exact Jb H (xK ⟨[1],[2]⟩)
     refine xR ?_
     exact Jb H (xK ⟨[1],[2]⟩)
    refine xR ?_
    exact Jb H (xK ⟨[1],[2]⟩)
   rintro x4 H
   rw[V2]at H
   rcases xB Y G H with⟨p,H,F,G,q⟩|⟨p,H,F,G,q⟩
   ·refine xT ?_
    replace H:=Jq H hF1
    replace H:=oI H
    refine xr ?_
    subst H
    refine xOr ?_
    refine qDf [] ?_
    exact xO ⟨[1],[2]⟩
   refine xE ?_
   exact Jb H (xK ⟨[1],[2]⟩)
  rintro ⟨⟩ H
  rw[Zs]at H
  refine xr ?_
  exact Jw (JA H hF1) (xK ⟨[1],[2]⟩)
 replace H:=Jq H hF1
 refine xE ?_
 replace H:=oI H
 refine xr ?_
 subst H
 refine xOr ?_
 refine qDf [] ?_
 exact xO ⟨[1],[2]⟩
theorem Jmw:Jd Tryz.prog 73∧(∀ g,JcD g→Jm Tryz.prog 73 g)∧(true=true→∀ g,JcD g→∃ val bs ts,g.out=.ret val bs ts) :=
 ⟨JD7,Jk0,fun _=>by rintro _ ⟨_,_,_,_,_,_,_,_,rfl⟩; exact⟨_,_,_,rfl⟩⟩
noncomputable def V3:(UInt8×Int)→Option YN
 | (x5,x6)=>some (.inl (x5,IntKind.i64.wrap (x6+1)))
noncomputable def Zv(x2:Int):Ya1→Option YN
 | (x7,x8)=>if x8=true then V3 (x7,IntKind.i64.wrap (x2+1)) else V3 (x7,x2)
noncomputable def Zz(a1:List UInt8)(x2:Int):Ya1→Option YN
 | (x3,x4)=>if x4=true then if(0:Int)≤x2∧x2.toNat<a1.length then if(eqI ((a1.getD x2.toNat 0).toNat:Int) (x3.toNat:Int))=true then inrO (some (IntKind.i64.wrap (x2+1))) else if(eqI ((a1.getD x2.toNat 0).toNat:Int) 92)=true then if(ltI (IntKind.i64.wrap (x2+1)) (a1.length:Int))=true then if(0:Int)≤(IntKind.i64.wrap (x2+1))∧(IntKind.i64.wrap (x2+1)).toNat<a1.length then Zv x2 (x3,!eqI ((a1.getD ((IntKind.i64.wrap (x2+1)).toNat) 0).toNat:Int) 10) else none else Zv x2 (x3,false) else V3 (x3,x2) else none else inrO (some (-1))
noncomputable def Zt(a1:List UInt8):(UInt8×Int)→Option YN
 | (x1,x2)=>if(ltI x2 (a1.length:Int))=true then if(0:Int)≤x2∧x2.toNat<a1.length then Zz a1 x2 (x1,!eqI ((a1.getD x2.toNat 0).toNat:Int) 10) else none else Zz a1 x2 (x1,false)
noncomputable def ZF(a0:UInt8)(a1:List UInt8)(a2:List Int)(a3:List UInt8)(a4 a5:Int)(a6:List Token):Option Int :=
 Jv (Zt a1) (a0,IntKind.i64.wrap (a5+1))
def JcF(a0:UInt8)(a1:List UInt8)(a2:List Int)(a3:List UInt8)(a4 a5:Int)(a6:List Token)(r:Int):GI :=
 ⟨[.c (.pt 1 0),.c (.d (.v (.int .u8 (a0.toNat:Int))))],[[kS a1,.d (.sl 1 (List.map dI a2)),kS a3,kI a4,kI a5,.sl 11 (List.map Ja a6) 2]],[44],.ret (cI r) [[kS a1,.d (.sl 1 (List.map dI a2)),kS a3,kI a4,kI a5,.sl 11 (List.map Ja a6) 2]] [44]⟩
def Jcc:GI→Prop:=Sg7 ZF JcF
theorem Jk7:∀ g,Jcc g→Jm Tryz.prog 74 g:=by
 rintro _ ⟨a0,a1,a2,a3,a4,a5,a6,r,H,rfl⟩
 refine xGn mixed [] [] [] trivial trivial trivial Tryz.func74 _ ?_
 have G:=True.intro
 have Y:=xZ y_3 <| xZ y_9 <| xZ y_70 <| xZ y_99 <| xZ Tryz.results74 <| xZ Jl.eq_1 <| xZ Ja.eq_1 <| xZ JM.eq_1 <| JcF.eq_1
 dsimp only[JcF]
 simp only[ZF]at H
 refine xS ?_
 refine xr ?_
 refine xr ?_
 refine xr ?_
 refine JG (Zt a1) (fun s=>[(1,.c (.d (.v (.int .u8 (s.1.toNat:Int))))),(5,cS a1),(6,cI s.2)]) (fun s=>[[kS a1,.d (.sl 1 (List.map dI a2)),kS a3,kI a4,kI a5,.sl 11 (List.map Ja a6) 2]]) [44] H (xK ⟨[1],[2]⟩) ?_
 rintro n1 ⟨x1,x2⟩ o1 H hF1
 rw[Zt]at H
 refine Kf ?_
 refine Jn (Zz a1 x2) (fun s=>[(1,.c (.d (.v (.int .u8 (s.1.toNat:Int))))),(5,cS a1),(6,cI x2),(26,cB s.2)]) (fun s=>[[kS a1,.d (.sl 1 (List.map dI a2)),kS a3,kI a4,kI a5,.sl 11 (List.map Ja a6) 2]]) [44] o1 ?_ ?_
 ·rcases xB Y G H with⟨p,H,F,G,q⟩|⟨p,H,F,G,q⟩
  ·obtain⟨g,H⟩:=Jc H
   refine xR ?_
   exact Jb H (xK ⟨[1],[2]⟩)
  refine xR ?_
  exact Jb H (xK ⟨[1],[2]⟩)
 rintro ⟨x3,x4⟩ H
 rw[Zz]at H
 rcases xB Y G H with⟨p,H,F,G,q⟩|⟨p,H,F,G,q⟩
 ·refine xT0 ?_
  refine VA ?_
  refine Jj ?_
  refine Jn V3 (fun s=>[(1,.c (.d (.v (.int .u8 (s.1.toNat:Int))))),(5,cS a1),(6,cI s.2)]) (fun s=>[[kS a1,.d (.sl 1 (List.map dI a2)),kS a3,kI a4,kI a5,.sl 11 (List.map Ja a6) 2]]) [44] o1 ?_ ?_
  ·refine xS ?_
   obtain⟨g,H⟩:=Jc H
   refine xr ?_
   refine xr ?_
   rcases xB Y G H with⟨p,H,F,G,q⟩|⟨p,H,F,G,q⟩
   ·refine xT ?_
    replace H:=Jq H hF1
    replace H:=oI H
    refine xr ?_
    subst H
    refine xOr ?_
    refine qDf [] ?_
    exact xO ⟨[1],[2]⟩
   refine xE ?_
   refine xr ?_
   rcases xB Y G H with⟨p,H,F,G,q⟩|⟨p,H,F,G,q⟩
   ·refine xT0 ?_
    refine Jn (Zv x2) (fun s=>[(1,.c (.d (.v (.int .u8 (s.1.toNat:Int))))),(5,cS a1),(6,cI x2),(50,cB s.2)]) (fun s=>[[kS a1,.d (.sl 1 (List.map dI a2)),kS a3,kI a4,kI a5,.sl 11 (List.map Ja a6) 2]]) [44] o1 ?_ ?_
    ·rcases xB Y G H with⟨p,H,F,G,q⟩|⟨p,H,F,G,q⟩
     ·obtain⟨g,H⟩:=Jc H
      refine xR ?_
      exact Jb H (xK ⟨[1],[2]⟩)
     refine xR ?_
     exact Jb H (xK ⟨[1],[2]⟩)
    rintro ⟨x7,x8⟩ H
    rw[Zv]at H
    rcases xB Y G H with⟨p,H,F,G,q⟩|⟨p,H,F,G,q⟩
    ·refine xT ?_
     refine xr ?_
     exact Jb H (xK ⟨[1],[2]⟩)
    refine xE ?_
    exact Jb H (xK ⟨[1],[2]⟩)
   refine xE ?_
   exact Jb H (xK ⟨[1],[2]⟩)
  rintro ⟨x5,x6⟩ H
  rw[V3]at H
  refine xr ?_
  exact Jw (JA H hF1) (xK ⟨[1],[2]⟩)
 replace H:=Jq H hF1
 refine xE ?_
 replace H:=oI H
 refine xr ?_
 subst H
 refine xOr ?_
 refine qDf [] ?_
 exact xO ⟨[1],[2]⟩
theorem Jmi:Jd Tryz.prog 74∧(∀ g,Jcc g→Jm Tryz.prog 74 g)∧(true=true→∀ g,Jcc g→∃ val bs ts,g.out=.ret val bs ts) :=
 ⟨JDX,Jk7,fun _=>by rintro _ ⟨_,_,_,_,_,_,_,_,_,rfl⟩; exact⟨_,_,_,rfl⟩⟩
noncomputable def Zr:Bool→Option Bool
 | x1=>some x1
noncomputable def JbM(a0:UInt8):Option Bool :=
 if(!eqI (a0.toNat:Int) 62)=true then Zr (!eqI (a0.toNat:Int) 10) else Zr false
noncomputable def Jd3:PF:=PF.of (E1 dU) (fun a=>JbM a) dB
theorem Jk3:JB Tryz.prog 100 Jd3:=by
 refine xF mixed [] [] trivial trivial Tryz.func100 ?_
 rintro a0 out H
 have G:=True.intro
 have Y:=Tryz.results100
 simp only[JbM]at H
 refine xS ?_
 refine xr0 ?_
 refine Jj ?_
 refine Jn Zr (fun s=>[(2,cB s)]) (fun s=>[]) [] out ?_ ?_
 ·rcases xB Y G H with⟨p,H,F,G,q⟩|⟨p,H,F,G,q⟩
  ·refine xR ?_
   exact Jb H (xK ⟨[],[]⟩)
  refine xR ?_
  exact Jb H (xK ⟨[],[]⟩)
 rintro x1 H
 rw[Zr]at H
 replace H:=oI H
 refine xS ?_
 subst H
 exact xN
theorem JmL(a0:UInt8)(r:Bool)(H:JbM a0=some r):PC Jd3 [dU a0] (dB r):=PF.c (a:=a0) H
noncomputable def Xw(x1:Int):Bool→Option (Int ⊕ Int)
 | x2=>if x2=true then some (.inl (IntKind.i64.wrap (x1+1))) else inrO (some x1)
noncomputable def Jao(a1:List UInt8):Int→Option (Int ⊕ Int)
 | x1=>if(ltI x1 (a1.length:Int))=true then if(0:Int)≤x1∧x1.toNat<a1.length then(JbM (a1.getD x1.toNat 0)).bind fun r1=>Xw x1 r1 else none else Xw x1 false
noncomputable def Jac(a0:Int)(a1:List UInt8)(a2:List Int)(a3:List UInt8)(a4 a5:Int)(a6:List Token):Option Int :=
 Jv (Jao a1) a0
def Jbn(a0:Int)(a1:List UInt8)(a2:List Int)(a3:List UInt8)(a4 a5:Int)(a6:List Token)(r:Int):GI :=
 ⟨[.c (.pt 1 0),cI a0,.c (.d (.v (.func (.func 100) #[] #[])))],[[kS a1,.d (.sl 1 (List.map dI a2)),kS a3,kI a4,kI a5,.sl 11 (List.map Ja a6) 2]],[44],.ret (cI r) [[kS a1,.d (.sl 1 (List.map dI a2)),kS a3,kI a4,kI a5,.sl 11 (List.map Ja a6) 2]] [44]⟩
def Ja5:GI→Prop:=Sg7 Jac Jbn
theorem Jjo:∀ g,Ja5 g→Jm Tryz.prog 68 g:=by
 rintro _ ⟨a0,a1,a2,a3,a4,a5,a6,r,H,rfl⟩
 refine xGn mixed [(100,Jd3)] [] [] ⟨⟨JCj,Jk3⟩,trivial⟩ trivial trivial Tryz.func68 _ ?_
 have G:=True.intro
 have Y:=xZ y_9 <| xZ y_70 <| xZ y_99 <| xZ Tryz.results68 <| xZ Jl.eq_1 <| xZ Ja.eq_1 <| xZ JM.eq_1 <| Jbn.eq_1
 dsimp only[Jbn]
 simp only[Jac]at H
 refine xS ?_
 refine xr ?_
 refine JG (Jao a1) (fun s=>[(0,.c (.pt 1 0)),(1,cI s),(2,.c (.d (.v (.func (.func 100) #[] #[]))))]) (fun s=>[[kS a1,.d (.sl 1 (List.map dI a2)),kS a3,kI a4,kI a5,.sl 11 (List.map Ja a6) 2]]) [44] H (xK ⟨[1],[2]⟩) ?_
 rintro n1 x1 o1 H hF1
 rw[Jao]at H
 refine Kf ?_
 refine Jn (Xw x1) (fun s=>[(0,.c (.pt 1 0)),(1,cI x1),(2,.c (.d (.v (.func (.func 100) #[] #[])))),(25,cB s)]) (fun s=>[[kS a1,.d (.sl 1 (List.map dI a2)),kS a3,kI a4,kI a5,.sl 11 (List.map Ja a6) 2]]) [44] o1 ?_ ?_
 ·rcases xB Y G H with⟨p,H,F,G,q⟩|⟨p,H,F,G,q⟩
  ·obtain⟨g,H⟩:=Jc H
   obtain⟨r1,hr1,H⟩:=Ji H
   have F:=xCf F (JmL (a1.getD x1.toNat 0) r1 hr1)
   refine xR ?_
   exact Jb H (xK ⟨[1],[2]⟩)
  refine xR ?_
  exact Jb H (xK ⟨[1],[2]⟩)
 rintro x2 H
 rw[Xw]at H
 rcases xB Y G H with⟨p,H,F,G,q⟩|⟨p,H,F,G,q⟩
 ·refine xT ?_
  refine xr ?_
  exact Jw (JA H hF1) (xK ⟨[1],[2]⟩)
 replace H:=Jq H hF1
 refine xE ?_
 replace H:=oI H
 refine xr ?_
 subst H
 refine xOr ?_
 refine qDf [] ?_
 exact xO ⟨[1],[2]⟩
theorem Jka:Jd Tryz.prog 68∧(∀ g,Ja5 g→Jm Tryz.prog 68 g)∧(true=true→∀ g,Ja5 g→∃ val bs ts,g.out=.ret val bs ts) :=
 ⟨JpY,Jjo,fun _=>by rintro _ ⟨_,_,_,_,_,_,_,_,_,rfl⟩; exact⟨_,_,_,rfl⟩⟩
noncomputable def JaM(r1:Int):Bool→Option Int
 | x2=>if x2=true then some (IntKind.i64.wrap (r1+1)) else some (-1)
noncomputable def JY(a0:List UInt8)(a1:List Int)(a2:List UInt8)(a3 a4:Int)(a5:List Token):Bool→Option Int
 | x1=>if x1=true then some (-1) else(Jac (IntKind.i64.wrap (a4+1)) a0 a1 a2 a3 a4 a5).bind fun r1=>if(ltI r1 (a0.length:Int))=true then if(0:Int)≤r1∧r1.toNat<a0.length then JaM r1 (eqI ((a0.getD r1.toNat 0).toNat:Int) 62) else none else JaM r1 false
noncomputable def Jbr(a0:List UInt8)(a1:List Int)(a2:List UInt8)(a3 a4:Int)(a5:List Token):Option Int :=
 if(ltI (a5.length:Int) 2)=true then JY a0 a1 a2 a3 a4 a5 true else if(0:Int)≤(IntKind.i64.wrap ((a5.length:Int)-1))∧(IntKind.i64.wrap ((a5.length:Int)-1)).toNat<a5.length then if(!eqS ((a5.getD ((IntKind.i64.wrap ((a5.length:Int)-1)).toNat) default).Text) [105,110,99,108,117,100,101])=true then JY a0 a1 a2 a3 a4 a5 true else if(0:Int)≤(IntKind.i64.wrap ((a5.length:Int)-1))∧(IntKind.i64.wrap ((a5.length:Int)-1)).toNat<a5.length then if((a5.getD ((IntKind.i64.wrap ((a5.length:Int)-1)).toNat) default).First)=true then JY a0 a1 a2 a3 a4 a5 true else if(0:Int)≤(IntKind.i64.wrap ((a5.length:Int)-2))∧(IntKind.i64.wrap ((a5.length:Int)-2)).toNat<a5.length then if(!((a5.getD ((IntKind.i64.wrap ((a5.length:Int)-2)).toNat) default).First))=true then JY a0 a1 a2 a3 a4 a5 true else if(0:Int)≤(IntKind.i64.wrap ((a5.length:Int)-2))∧(IntKind.i64.wrap ((a5.length:Int)-2)).toNat<a5.length then JY a0 a1 a2 a3 a4 a5 (!eqS ((a5.getD ((IntKind.i64.wrap ((a5.length:Int)-2)).toNat) default).Text) [35]) else none else none else none else none
def Jdz(a0:List UInt8)(a1:List Int)(a2:List UInt8)(a3 a4:Int)(a5:List Token)(r:Int):GI :=
 ⟨[.c (.pt 1 0)],[[kS a0,.d (.sl 1 (List.map dI a1)),kS a2,kI a3,kI a4,.sl 11 (List.map Ja a5) 2]],[44],.ret (cI r) [[kS a0,.d (.sl 1 (List.map dI a1)),kS a2,kI a3,kI a4,.sl 11 (List.map Ja a5) 2]] [44]⟩
def Jdm:GI→Prop:=Sg6 Jbr Jdz
theorem Jm9:∀ g,Jdm g→Jm Tryz.prog 75 g:=by
 rintro _ ⟨a0,a1,a2,a3,a4,a5,r,H,rfl⟩
 refine xGn mixed [] [(68,true,Ja5)] [] trivial ⟨Jka,trivial⟩ trivial Tryz.func75 _ ?_
 have G:=True.intro
 have Y:=xZ y_3 <| xZ y_4 <| xZ y_9 <| xZ y_24 <| xZ y_44 <| xZ y_70 <| xZ y_99 <| xZ Tryz.results75 <| xZ Jl.eq_1 <| xZ Ja.eq_1 <| xZ JM.eq_1 <| xZ Jbn.eq_1 <| Jdz.eq_1
 dsimp only[Jdz]
 simp only[Jbr]at H
 refine xS ?_
 refine xr ?_
 refine xr0 ?_
 refine Jj ?_
 refine Kf ?_
 refine Jn (JY a0 a1 a2 a3 a4 a5) (fun s=>[(0,.c (.pt 1 0)),(58,cB s)]) (fun s=>[[kS a0,.d (.sl 1 (List.map dI a1)),kS a2,kI a3,kI a4,.sl 11 (List.map Ja a5) 2]]) [44] r ?_ ?_
 ·rcases xB Y G H with⟨p,H,F,G,q⟩|⟨p,H,F,G,q⟩
  ·refine xR ?_
   exact Jb H (xK ⟨[1],[2]⟩)
  obtain⟨g,H⟩:=Jc H
  have F:=xZ F (Jh Ja a5 ((IntKind.i64.wrap ((a5.length:Int)-1)).toNat) default default (by omega))
  rcases xB F G H with⟨p,H,F,G,q⟩|⟨p,H,F,G,q⟩
  ·refine xR ?_
   exact Jb H (xK ⟨[1],[2]⟩)
  obtain⟨g,H⟩:=Jc H
  have F:=xZ F (Jh Ja a5 ((IntKind.i64.wrap ((a5.length:Int)-1)).toNat) default default (by omega))
  rcases xB F G H with⟨p,H,F,G,q⟩|⟨p,H,F,G,q⟩
  ·refine xR ?_
   exact Jb H (xK ⟨[1],[2]⟩)
  obtain⟨g,H⟩:=Jc H
  have F:=xZ F (Jh Ja a5 ((IntKind.i64.wrap ((a5.length:Int)-2)).toNat) default default (by omega))
  rcases xB F G H with⟨p,H,F,G,q⟩|⟨p,H,F,G,q⟩
  ·refine xR ?_
   exact Jb H (xK ⟨[1],[2]⟩)
  obtain⟨g,H⟩:=Jc H
  have F:=xZ F (Jh Ja a5 ((IntKind.i64.wrap ((a5.length:Int)-2)).toNat) default default (by omega))
  refine xR ?_
  exact Jb H (xK ⟨[1],[2]⟩)
 rintro x1 H
 rw[JY]at H
 rcases xB Y G H with⟨p,H,F,G,q⟩|⟨p,H,F,G,q⟩
 ·refine xT ?_
  replace H:=oI H
  refine xr ?_
  subst H
  refine xOr ?_
  refine qDf [] ?_
  exact xO ⟨[1],[2]⟩
 refine xE ?_
 obtain⟨r1,hr1,H⟩:=Ji H
 have F:=Y
 refine xQ ?_
 refine xs 6 ?_
 refine xc ⟨[1],[2]⟩ (tabG 0 (cg7 hr1)) ?_
 refine xs 1 ?_
 refine xl ?_
 refine  ?_
 refine Jj ?_
 refine Kf ?_
 refine Jn (JaM r1) (fun s=>[(4,cI r1),(83,cB s)]) (fun s=>[[kS a0,.d (.sl 1 (List.map dI a1)),kS a2,kI a3,kI a4,.sl 11 (List.map Ja a5) 2]]) [44] r ?_ ?_
 ·rcases xB Y G H with⟨p,H,F,G,q⟩|⟨p,H,F,G,q⟩
  ·obtain⟨g,H⟩:=Jc H
   refine xR ?_
   exact Jb H (xK ⟨[1],[4]⟩)
  refine xR ?_
  exact Jb H (xK ⟨[1],[4]⟩)
 rintro x2 H
 rw[JaM]at H
 rcases xB Y G H with⟨p,H,F,G,q⟩|⟨p,H,F,G,q⟩
 ·refine xT ?_
  replace H:=oI H
  refine xr ?_
  subst H
  refine xOr ?_
  refine qDf [] ?_
  exact xO ⟨[1],[2]⟩
 refine xE ?_
 replace H:=oI H
 refine xr ?_
 subst H
 refine xOr ?_
 refine qDf [] ?_
 exact xO ⟨[1],[2]⟩
theorem JnW:Jd Tryz.prog 75∧(∀ g,Jdm g→Jm Tryz.prog 75 g)∧(true=true→∀ g,Jdm g→∃ val bs ts,g.out=.ret val bs ts) :=
 ⟨JDZ,Jm9,fun _=>by rintro _ ⟨_,_,_,_,_,_,_,_,rfl⟩; exact⟨_,_,_,rfl⟩⟩
noncomputable def Jhs  : Option YV :=
 some [[46,46,46],[60,60,61],[62,62,61],[45,62],[43,43],[45,45],[60,60],[62,62],[60,61],[62,61],[61,61],[33,61],[38,38],[124,124],[43,61],[45,61],[42,61],[47,61],[37,61],[38,61],[124,61],[94,61],[35,35],[91],[93],[40],[41],[123],[125],[46],[38],[42],[43],[45],[126],[33],[47],[37],[60],[62],[94],[124],[63],[58],[59],[61],[44],[35]]
noncomputable def Jik:PF:=PF.of E0 (fun _=>Jhs) (dL 1 dS)
theorem JvE:JB Tryz.prog 101 Jik:=by
 refine xF mixed [] [] trivial trivial Tryz.func101 ?_
 rintro _ out H
 have G:=True.intro
 have Y:=xZ y_9 <| xZ y_41 <| Tryz.results101
 simp only[Jhs]at H
 refine xS ?_
 refine xr ?_
 replace H:=oI H
 refine xr ?_
 subst H
 exact xN
theorem Jw0  (r:YV) (H:Jhs  = some r):PC Jik [] ((dL 1 dS) r):=PF.c (a:=()) H
noncomputable def JaR(a4 x1 x2:Int):((List UInt8)×Bool)→Option YW
 | (x3,x4)=>if x4=true then inrO (some (IntKind.i64.wrap (a4+(x3.length:Int)))) else some (.inl (x1,IntKind.i64.wrap (x2+1)))
noncomputable def JaP(a0:List UInt8)(a4:Int)(r1:YV):(Int×Int)→Option YW
 | (x1,x2)=>if(ltI x2 x1)=true then if(0:Int)≤x2∧x2.toNat<r1.length then if(leI ((r1.getD x2.toNat default).length:Int) (IntKind.i64.wrap ((a0.length:Int)-a4)))=true then if(0:Int)≤a4∧a4≤(IntKind.i64.wrap (a4+((r1.getD x2.toNat default).length:Int)))∧(IntKind.i64.wrap (a4+((r1.getD x2.toNat default).length:Int)))≤(a0.length:Int) then JaR a4 x1 x2 ((r1.getD x2.toNat default),eqS (List.take ((IntKind.i64.wrap (a4+((r1.getD x2.toNat default).length:Int))).toNat-a4.toNat) (List.drop a4.toNat a0)) (r1.getD x2.toNat default)) else none else JaR a4 x1 x2 ((r1.getD x2.toNat default),false) else none else inrO (some (-1))
noncomputable def Jbs(a0:List UInt8)(a1:List Int)(a2:List UInt8)(a3 a4:Int)(a5:List Token):Option Int :=
 (Jhs).bind fun r1=>Jv (JaP a0 a4 r1) ((r1.length:Int),0)
def Jds(a0:List UInt8)(a1:List Int)(a2:List UInt8)(a3 a4:Int)(a5:List Token)(r:Int):GI :=
 ⟨[.c (.pt 1 0)],[[kS a0,.d (.sl 1 (List.map dI a1)),kS a2,kI a3,kI a4,.sl 11 (List.map Ja a5) 2]],[44],.ret (cI r) [[kS a0,.d (.sl 1 (List.map dI a1)),kS a2,kI a3,kI a4,.sl 11 (List.map Ja a5) 2]] [44]⟩
def Jdv:GI→Prop:=Sg6 Jbs Jds
theorem Jm5:∀ g,Jdv g→Jm Tryz.prog 76 g:=by
 rintro _ ⟨a0,a1,a2,a3,a4,a5,r,H,rfl⟩
 refine xGn mixed [(101,Jik)] [] [] ⟨⟨JBP,JvE⟩,trivial⟩ trivial trivial Tryz.func76 _ ?_
 have G:=True.intro
 have Y:=xZ y_3 <| xZ y_9 <| xZ y_41 <| xZ y_70 <| xZ y_99 <| xZ Tryz.results76 <| xZ Jl.eq_1 <| xZ Ja.eq_1 <| xZ JM.eq_1 <| Jds.eq_1
 dsimp only[Jds]
 simp only[Jbs]at H
 refine xS ?_
 refine xr ?_
 obtain⟨r1,hr1,H⟩:=Ji H
 have F:=xC Y (Jw0  r1 hr1)
 refine xR ?_
 refine JG (JaP a0 a4 r1) (fun s=>[(0,.c (.pt 1 0)),(5,.c (.d (.sl 1 (List.map dS r1)))),(6,cI s.1),(7,cI s.2)]) (fun s=>[[kS a0,.d (.sl 1 (List.map dI a1)),kS a2,kI a3,kI a4,.sl 11 (List.map Ja a5) 2]]) [44] H (xK ⟨[1],[2]⟩) ?_
 rintro n1 ⟨x1,x2⟩ o1 H hF1
 rw[JaP]at H
 refine xS ?_
 refine xr ?_
 rcases xB Y G H with⟨p,H,F,G,q⟩|⟨p,H,F,G,q⟩
 ·refine xT ?_
  obtain⟨g,H⟩:=Jc H
  have F:=xZ Y (Jh dS r1 x2.toNat default default (by omega))
  refine xR0 ?_
  refine Jj ?_
  refine Jn (JaR a4 x1 x2) (fun s=>[(0,.c (.pt 1 0)),(4,cS s.1),(5,.c (.d (.sl 1 (List.map dS r1)))),(6,cI x1),(7,cI x2),(45,cB s.2)]) (fun s=>[[kS a0,.d (.sl 1 (List.map dI a1)),kS a2,kI a3,kI a4,.sl 11 (List.map Ja a5) 2]]) [44] o1 ?_ ?_
  ·rcases xB Y G H with⟨p,H,F,G,q⟩|⟨p,H,F,G,q⟩
   ·obtain⟨g,H⟩:=Jc H
    refine xR ?_
    exact Jb H (xK ⟨[1],[2]⟩)
   refine xR ?_
   exact Jb H (xK ⟨[1],[2]⟩)
  rintro ⟨x3,x4⟩ H
  rw[JaR]at H
  rcases xB Y G H with⟨p,H,F,G,q⟩|⟨p,H,F,G,q⟩
  ·refine xT ?_
   replace H:=Jq H hF1
   replace H:=oI H
   refine xr ?_
   subst H
   refine xOr ?_
   refine qDf [] ?_
   exact xO ⟨[1],[2]⟩
  refine xE ?_
  refine xr ?_
  exact Jw (JA H hF1) (xK ⟨[1],[2]⟩)
 replace H:=Jq H hF1
 refine xE ?_
 replace H:=oI H
 refine xr ?_
 subst H
 refine xOr ?_
 refine qDf [] ?_
 exact xO ⟨[1],[2]⟩
theorem Jnx:Jd Tryz.prog 76∧(∀ g,Jdv g→Jm Tryz.prog 76 g)∧(true=true→∀ g,Jdv g→∃ val bs ts,g.out=.ret val bs ts) :=
 ⟨JDp,Jm5,fun _=>by rintro _ ⟨_,_,_,_,_,_,_,_,rfl⟩; exact⟨_,_,_,rfl⟩⟩
noncomputable def Xi(a1:List UInt8)(a2:List Int)(a3:List UInt8)(a4 a5:Int)(a6:List Token):Bool→Option (Int×Int)
 | x3=>if x3=true then(Jbr a1 a2 a3 a4 a5 a6).bind fun r6=>some (7,r6) else(Jbs a1 a2 a3 a4 a5 a6).bind fun r7=>if(ltI 0 r7)=true then(Jbs a1 a2 a3 a4 a5 a6).bind fun r8=>some (5,r8) else some (6,IntKind.i64.wrap (a5+1))
noncomputable def VG(a0:Bool)(a1:List UInt8)(a2:List Int)(a3:List UInt8)(a4 a5:Int)(a6:List Token):Ya1→Option (Int×Int)
 | (x1,x2)=>if x2=true then(JbO a1 a2 a3 a4 a5 a6).bind fun r3=>some (2,r3) else if(eqI (x1.toNat:Int) 34)=true then(ZF x1 a1 a2 a3 a4 a5 a6).bind fun r4=>some (4,r4) else if(eqI (x1.toNat:Int) 39)=true then(ZF x1 a1 a2 a3 a4 a5 a6).bind fun r5=>some (3,r5) else if(eqI (x1.toNat:Int) 60)=true then if(!a0)=true then(Jbr a1 a2 a3 a4 a5 a6).bind fun r9=>Xi a1 a2 a3 a4 a5 a6 (ltI 0 r9) else Xi a1 a2 a3 a4 a5 a6 false else Xi a1 a2 a3 a4 a5 a6 false
noncomputable def Jb5(a0:Bool)(a1:List UInt8)(a2:List Int)(a3:List UInt8)(a4 a5:Int)(a6:List Token):Option (Int×Int) :=
 if(0:Int)≤a5∧a5.toNat<a1.length then(Jcq (a1.getD a5.toNat 0)).bind fun r1=>if r1=true then(Z0 a5 a1 a2 a3 a4 a5 a6).bind fun r2=>some (1,r2) else(Jcx (a1.getD a5.toNat 0)).bind fun r10=>if r10=true then VG a0 a1 a2 a3 a4 a5 a6 ((a1.getD a5.toNat 0),true) else if(eqI ((a1.getD a5.toNat 0).toNat:Int) 46)=true then if(ltI (IntKind.i64.wrap (a5+1)) (a1.length:Int))=true then if(0:Int)≤(IntKind.i64.wrap (a5+1))∧(IntKind.i64.wrap (a5+1)).toNat<a1.length then(Jcx (a1.getD ((IntKind.i64.wrap (a5+1)).toNat) 0)).bind fun r11=>VG a0 a1 a2 a3 a4 a5 a6 ((a1.getD a5.toNat 0),r11) else none else VG a0 a1 a2 a3 a4 a5 a6 ((a1.getD a5.toNat 0),false) else VG a0 a1 a2 a3 a4 a5 a6 ((a1.getD a5.toNat 0),false) else none
def Jd9(a0:Bool)(a1:List UInt8)(a2:List Int)(a3:List UInt8)(a4 a5:Int)(a6:List Token)(r:(Int×Int)):GI :=
 ⟨[.c (.pt 1 0),cB a0],[[kS a1,.d (.sl 1 (List.map dI a2)),kS a3,kI a4,kI a5,.sl 11 (List.map Ja a6) 2]],[44],.ret (.tu [(false,[kI r.1]),(false,[kI r.2])]) [[kS a1,.d (.sl 1 (List.map dI a2)),kS a3,kI a4,kI a5,.sl 11 (List.map Ja a6) 2]] [44]⟩
def Jd6:GI→Prop:=Sg7 Jb5 Jd9
theorem JnY:∀ g,Jd6 g→Jm Tryz.prog 50 g:=by
 rintro _ ⟨a0,a1,a2,a3,a4,a5,a6,r,H,rfl⟩
 refine xGn mixed [(70,JdW),(72,Jes)] [(68,true,Jbk),(73,true,JcD),(74,true,Jcc),(75,true,Jdm),(76,true,Jdv)] [] ⟨⟨Jqi,JhC⟩,⟨Jqt,Jiy⟩,trivial⟩ ⟨JjZ,Jmw,Jmi,JnW,Jnx,trivial⟩ trivial Tryz.func50 _ ?_
 have G:=True.intro
 have Y:=xZ y_3 <| xZ y_9 <| xZ y_70 <| xZ y_99 <| xZ Tryz.results50 <| xZ Jl.eq_1 <| xZ Ja.eq_1 <| xZ JM.eq_1 <| xZ Jbm.eq_1 <| xZ Jce.eq_1 <| xZ JcF.eq_1 <| xZ Jdz.eq_1 <| xZ Jds.eq_1 <| Jd9.eq_1
 dsimp only[Jd9]
 simp only[Jb5]at H
 refine xS ?_
 refine xr ?_
 refine xr ?_
 obtain⟨g,H⟩:=Jc H
 refine xr ?_
 obtain⟨r1,hr1,H⟩:=Ji H
 have F:=xC Y (JiA (a1.getD a5.toNat 0) r1 hr1)
 refine xR ?_
 rcases xB Y G H with⟨p,H,F,G,q⟩|⟨p,H,F,G,q⟩
 ·refine xT ?_
  obtain⟨r2,hr2,H⟩:=Ji H
  have F:=Y
  refine xQ ?_
  refine xs 5 ?_
  refine xc ⟨[1],[2]⟩ (tabG 0 (cg7 hr2)) ?_
  refine xs 2 ?_
  refine xl ?_
  replace H:=oI H
  refine xS ?_
  subst H
  refine xOr ?_
  refine qDf [] ?_
  exact xO ⟨[1],[4]⟩
 refine xE0 ?_
 refine Jn (VG a0 a1 a2 a3 a4 a5 a6) (fun s=>[(0,.c (.pt 1 0)),(1,cB a0),(7,.c (.d (.v (.int .u8 (s.1.toNat:Int))))),(28,cB s.2)]) (fun s=>[[kS a1,.d (.sl 1 (List.map dI a2)),kS a3,kI a4,kI a5,.sl 11 (List.map Ja a6) 2]]) [44] r ?_ ?_
 ·obtain⟨r10,hr10,H⟩:=Ji H
  have F:=xC Y (Jg6 (a1.getD a5.toNat 0) r10 hr10)
  rcases xB F G H with⟨p,H,F,G,q⟩|⟨p,H,F,G,q⟩
  ·refine xR ?_
   exact Jb H (xK ⟨[1],[2]⟩)
  rcases xB F G H with⟨p,H,F,G,q⟩|⟨p,H,F,G,q⟩
  ·rcases xB F G H with⟨p,H,F,G,q⟩|⟨p,H,F,G,q⟩
   ·obtain⟨g,H⟩:=Jc H
    obtain⟨r11,hr11,H⟩:=Ji H
    have F:=xCf F (Jg6 (a1.getD ((IntKind.i64.wrap (a5+1)).toNat) 0) r11 hr11)
    refine xR ?_
    exact Jb H (xK ⟨[1],[2]⟩)
   refine xR ?_
   exact Jb H (xK ⟨[1],[2]⟩)
  refine xR ?_
  exact Jb H (xK ⟨[1],[2]⟩)
 rintro ⟨x1,x2⟩ H
 rw[VG]at H
 rcases xB Y G H with⟨p,H,F,G,q⟩|⟨p,H,F,G,q⟩
 ·refine xT ?_
  obtain⟨r3,hr3,H⟩:=Ji H
  have F:=Y
  refine xQ ?_
  refine xs 1 ?_
  refine xc ⟨[1],[2]⟩ (tabG 1 (cg6 hr3)) ?_
  refine xs 2 ?_
  refine xl ?_
  replace H:=oI H
  refine xS ?_
  subst H
  refine xOr ?_
  refine qDf [] ?_
  exact xO ⟨[1],[4]⟩
 refine xE ?_
 refine xr ?_
 rcases xB Y G H with⟨p,H,F,G,q⟩|⟨p,H,F,G,q⟩
 ·refine xT ?_
  obtain⟨r4,hr4,H⟩:=Ji H
  have F:=Y
  refine xQ ?_
  refine xs 2 ?_
  refine xc ⟨[1],[2]⟩ (tabG 2 (cg7 hr4)) ?_
  refine xs 2 ?_
  refine xl ?_
  replace H:=oI H
  refine xS ?_
  subst H
  refine xOr ?_
  refine qDf [] ?_
  exact xO ⟨[1],[4]⟩
 refine xE ?_
 refine xr ?_
 rcases xB Y G H with⟨p,H,F,G,q⟩|⟨p,H,F,G,q⟩
 ·refine xT ?_
  obtain⟨r5,hr5,H⟩:=Ji H
  have F:=Y
  refine xQ ?_
  refine xs 2 ?_
  refine xc ⟨[1],[2]⟩ (tabG 2 (cg7 hr5)) ?_
  refine xs 2 ?_
  refine xl ?_
  replace H:=oI H
  refine xS ?_
  subst H
  refine xOr ?_
  refine qDf [] ?_
  exact xO ⟨[1],[4]⟩
 refine xE0 ?_
 refine Jn (Xi a1 a2 a3 a4 a5 a6) (fun s=>[(0,.c (.pt 1 0)),(69,cB s)]) (fun s=>[[kS a1,.d (.sl 1 (List.map dI a2)),kS a3,kI a4,kI a5,.sl 11 (List.map Ja a6) 2]]) [44] r ?_ ?_
 ·rcases xB Y G H with⟨p,H,F,G,q⟩|⟨p,H,F,G,q⟩
  ·rcases xB F G H with⟨p,H,F,G,q⟩|⟨p,H,F,G,q⟩
   ·obtain⟨r9,hr9,H⟩:=Ji H
    have F:=F
    refine xQ ?_
    refine xs 8 ?_
    refine xc ⟨[1],[2]⟩ (tabG 3 (cg6 hr9)) ?_
    refine xs 3 ?_
    refine xl ?_
    refine xS ?_
    exact Jb H (xK ⟨[1],[4]⟩)
   refine xR ?_
   exact Jb H (xK ⟨[1],[2]⟩)
  refine xR ?_
  exact Jb H (xK ⟨[1],[2]⟩)
 rintro x3 H
 rw[Xi]at H
 rcases xB Y G H with⟨p,H,F,G,q⟩|⟨p,H,F,G,q⟩
 ·refine xT ?_
  obtain⟨r6,hr6,H⟩:=Ji H
  have F:=Y
  refine xQ ?_
  refine xs 1 ?_
  refine xc ⟨[1],[2]⟩ (tabG 3 (cg6 hr6)) ?_
  refine xs 2 ?_
  refine xl ?_
  replace H:=oI H
  refine xS ?_
  subst H
  refine xOr ?_
  refine qDf [] ?_
  exact xO ⟨[1],[4]⟩
 refine xE ?_
 obtain⟨r7,hr7,H⟩:=Ji H
 have F:=Y
 refine xQ ?_
 refine xs 1 ?_
 refine xc ⟨[1],[2]⟩ (tabG 4 (cg6 hr7)) ?_
 refine xs 2 ?_
 refine xl ?_
 refine xS ?_
 rcases xB Y G H with⟨p,H,F,G,q⟩|⟨p,H,F,G,q⟩
 ·refine xT ?_
  obtain⟨r8,hr8,H⟩:=Ji H
  have F:=Y
  refine xQ ?_
  refine xs 1 ?_
  refine xc ⟨[1],[4]⟩ (tabG 4 (cg6 hr8)) ?_
  refine xs 2 ?_
  refine xl ?_
  replace H:=oI H
  refine xS ?_
  subst H
  refine xOr ?_
  refine qDf [] ?_
  exact xO ⟨[1],[6]⟩
 refine xE ?_
 replace H:=oI H
 refine xr ?_
 subst H
 refine xOr ?_
 refine qDf [] ?_
 exact xO ⟨[1],[4]⟩
theorem JpS:Jd Tryz.prog 50∧(∀ g,Jd6 g→Jm Tryz.prog 50 g)∧(true=true→∀ g,Jd6 g→∃ val bs ts,g.out=.ret val bs ts) :=
 ⟨JC4,JnY,fun _=>by rintro _ ⟨_,_,_,_,_,_,_,_,_,rfl⟩; exact⟨_,_,_,rfl⟩⟩
noncomputable def Jb9(x2 x3:Int):Int→Option (YZ ⊕ Int)
 | x4=>some (.inl (x4,x2,IntKind.i64.wrap (x3+1)))
noncomputable def JcB(a0:List UInt8):YZ→Option (YZ ⊕ Int)
 | (x1,x2,x3)=>if(ltI x3 x2)=true then if(0:Int)≤x3∧x3.toNat<a0.length then if(eqI ((a0.getD x3.toNat 0).toNat:Int) 10)=true then Jb9 x2 x3 (IntKind.i64.wrap (x1+1)) else Jb9 x2 x3 x1 else none else inrO (some x1)
noncomputable def JcY(a0:List UInt8)(a1:Int):Option Int :=
 Jv (JcB a0) (1,(if(a0.length:Int)<(if 0 > a1 then 0 else a1) then(a0.length:Int) else(if 0 > a1 then 0 else a1)),0)
noncomputable def JgB:PF:=PF.of (E2 dS dI) (fun a=>JcY a.1 a.2) dI
theorem JoD:JB Tryz.prog 51 JgB:=by
 refine xF mixed [] [] trivial trivial Tryz.func51 ?_
 rintro ⟨a0,a1⟩ out H
 have G:=True.intro
 have Y:=xZ y_3 <| xZ y_9 <| Tryz.results51
 simp only[JcY]at H
 refine xS ?_
 refine xr ?_
 refine xr ?_
 refine xr ?_
 refine JG (JcB a0) (fun s=>[(0,cS a0),(5,cI s.1),(11,cI s.2.1),(12,cI s.2.2)]) (fun s=>[]) [] H (xK ⟨[],[]⟩) ?_
 rintro n1 ⟨x1,x2,x3⟩ o1 H hF1
 rw[JcB]at H
 refine xS ?_
 refine xr ?_
 rcases xB Y G H with⟨p,H,F,G,q⟩|⟨p,H,F,G,q⟩
 ·refine xT0 ?_
  refine VA ?_
  refine Jj ?_
  refine Jn (Jb9 x2 x3) (fun s=>[(0,cS a0),(5,cI s),(11,cI x2),(12,cI x3)]) (fun s=>[]) [] o1 ?_ ?_
  ·refine xS ?_
   refine xr ?_
   obtain⟨g,H⟩:=Jc H
   refine xr ?_
   rcases xB Y G H with⟨p,H,F,G,q⟩|⟨p,H,F,G,q⟩
   ·refine xT ?_
    refine xr ?_
    exact Jb H (xK ⟨[],[]⟩)
   refine xE ?_
   exact Jb H (xK ⟨[],[]⟩)
  rintro x4 H
  rw[Jb9]at H
  refine xr ?_
  exact Jw (JA H hF1) (xK ⟨[],[]⟩)
 replace H:=Jq H hF1
 refine xE ?_
 replace H:=oI H
 refine xr ?_
 subst H
 exact xN
theorem Jp3(a0:List UInt8)(a1 r:Int)(H:JcY a0 a1=some r):PC JgB [dS a0,dI a1] (dI r):=PF.c (a:=(a0,a1)) H
noncomputable def Jb6(a0:Int)(a1:List UInt8)(r1:Spliced)(x2:List Token)(r2:YI):Bool→Option Yu
 | x3=>(XV r1 r2.2.2.2).bind fun r4=>(Jb5 x3 r1.Text r1.At a1 a0 r2.2.2.2 x2).bind fun r5=>if(ltI r5.2 0)=true then inrO (some (([]:List Token),(⟨9,a0,r4⟩:Fault))) else if(0:Int)≤r2.2.2.2∧r2.2.2.2≤r5.2∧r5.2≤(r1.Text.length:Int) then(XV r1 (IntKind.i64.wrap (r5.2-1))).bind fun r6=>(JcY a1 r4).bind fun r7=>if(x2.length + [(⟨r5.1,List.take (r5.2.toNat-r2.2.2.2.toNat) (List.drop r2.2.2.2.toNat r1.Text),r2.1,x3,a0,r4,IntKind.i64.wrap (r6+1),r7,([]:List (List UInt8)),([]:List Call),0⟩:Token)].length) * 120≤140737488355328 then some (.inl (r5.2,x2++[(⟨r5.1,List.take (r5.2.toNat-r2.2.2.2.toNat) (List.drop r2.2.2.2.toNat r1.Text),r2.1,x3,a0,r4,IntKind.i64.wrap (r6+1),r7,([]:List (List UInt8)),([]:List Call),0⟩:Token)])) else none else none
noncomputable def Jb2(a0:Int)(a1:List UInt8)(r1:Spliced):YO→Option Yu
 | (x1,x2)=>(Jef r1.Text r1.At a1 a0 x1 x2).bind fun r2=>if(!r2.2.2.1)=true then(XV r1 r2.2.2.2).bind fun r3=>inrO (some (([]:List Token),(⟨9,a0,r3⟩:Fault))) else if(eqI r2.2.2.2 (r1.Text.length:Int))=true then inrO (some (x2,(⟨0,(-1),0⟩:Fault))) else if(eqI (x2.length:Int) 0)=true then Jb6 a0 a1 r1 x2 r2 true else Jb6 a0 a1 r1 x2 r2 r2.2.1
noncomputable def JeQ(a0:Int)(a1:List UInt8):Option ((List Token)×Fault) :=
 if(ltI 3000 (a1.length:Int))=true then some (([]:List Token),(⟨4,a0,0⟩:Fault)) else(JdY a1).bind fun r1=>Jv (Jb2 a0 a1 r1) (0,([]:List Token))
noncomputable def JhD:PF:=PF.of (E2 dI dS) (fun a=>JeQ a.1 a.2) (T2 (dL 11 Ja) JU)
theorem Jt3:JB Tryz.prog 32 JhD:=by
 refine xF mixed [(47,JgU),(49,Jgz),(51,JgB)] [(48,true,JcQ),(50,true,Jd6)] ⟨⟨JCV,Jp2⟩,⟨JDT,JoB⟩,⟨JDH,JoD⟩,trivial⟩ ⟨Jnh,JpS,trivial⟩ Tryz.func32 ?_
 rintro ⟨a0,a1⟩ out H
 have G:=True.intro
 have Y:=xZ y_3 <| xZ y_4 <| xZ y_9 <| xZ y_24 <| xZ y_29 <| xZ y_31 <| xZ y_41 <| xZ y_42 <| xZ y_44 <| xZ y_70 <| xZ y_99 <| xZ Tryz.results32 <| xZ Jl.eq_1 <| xZ Ja.eq_1 <| xZ JM.eq_1 <| xZ JU.eq_1 <| xZ JcK.eq_1 <| Jd9.eq_1
 simp only[JeQ]at H
 refine xS ?_
 refine xr ?_
 refine xr ?_
 rcases xB Y G H with⟨p,H,F,G,q⟩|⟨p,H,F,G,q⟩
 ·refine xT ?_
  replace H:=oI H
  refine xr ?_
  subst H
  exact xN
 refine xE ?_
 obtain⟨r1,hr1,H⟩:=Ji H
 have F:=xC Y (Jt6 a1 r1 hr1)
 refine xR ?_
 refine JG (Jb2 a0 a1 r1) (fun s=>[(0,cI a0),(1,cS a1),(5,.c (.pt 1 0)),(6,.c (.pt 2 0))]) (fun s=>[[kI 0,kI 0,kI 0],[kS r1.Text,.d (.sl 1 (List.map dI r1.At)),kS a1,kI a0,kI s.1,.sl 11 (List.map Ja s.2) 3]]) [44] H (xK ⟨[1,2],[0]⟩) ?_
 rintro n1 ⟨x1,x2⟩ o1 H hF1
 rw[Jb2]at H
 refine xS ?_
 obtain⟨r2,hr2,H⟩:=Ji H
 have F:=Y
 refine xQ ?_
 refine xs 1 ?_
 refine xc ⟨[2],[3]⟩ (tabG 0 (cg6 hr2)) ?_
 refine xs 7 ?_
 refine xl ?_
 refine xS ?_
 refine xr ?_
 rcases xB Y G H with⟨p,H,F,G,q⟩|⟨p,H,F,G,q⟩
 ·refine xT ?_
  obtain⟨r3,hr3,H⟩:=Ji H
  have F:=xC Y (Jg4 r1 r2.2.2.2 r3 hr3)
  replace H:=Jq H hF1
  replace H:=oI H
  refine xR ?_
  subst H
  exact xN
 refine xE ?_
 refine xr ?_
 rcases xB Y G H with⟨p,H,F,G,q⟩|⟨p,H,F,G,q⟩
 ·refine xT ?_
  replace H:=Jq H hF1
  replace H:=oI H
  refine xr ?_
  subst H
  exact xN
 refine xE0 ?_
 refine VA ?_
 refine Jj ?_
 refine Jn (Jb6 a0 a1 r1 x2 r2) (fun s=>[(0,cI a0),(1,cS a1),(5,.c (.pt 1 0)),(6,.c (.pt 2 0)),(7,cB r2.1),(10,cB s)]) (fun s=>[[kI 0,kI 0,kI 0],[kS r1.Text,.d (.sl 1 (List.map dI r1.At)),kS a1,kI a0,kI r2.2.2.2,.sl 11 (List.map Ja x2) 3]]) [44] o1 ?_ ?_
 ·rcases xB Y G H with⟨p,H,F,G,q⟩|⟨p,H,F,G,q⟩
  ·refine xR ?_
   exact Jb H (xK ⟨[1,2],[5]⟩)
  refine xR ?_
  exact Jb H (xK ⟨[1,2],[5]⟩)
 rintro x3 H
 rw[Jb6]at H
 refine xS ?_
 obtain⟨r4,hr4,H⟩:=Ji H
 have F:=xC Y (Jg4 r1 r2.2.2.2 r4 hr4)
 refine xR ?_
 obtain⟨r5,hr5,H⟩:=Ji H
 have F:=Y
 refine xQ ?_
 refine xs 2 ?_
 refine xc ⟨[2],[3]⟩ (tabG 1 (cg7 hr5)) ?_
 refine xs 5 ?_
 refine xl ?_
 refine xS ?_
 refine xr ?_
 rcases xB Y G H with⟨p,H,F,G,q⟩|⟨p,H,F,G,q⟩
 ·refine xT ?_
  replace H:=Jq H hF1
  replace H:=oI H
  refine xr ?_
  subst H
  exact xN
 refine xE ?_
 obtain⟨g,H⟩:=Jc H
 obtain⟨r6,hr6,H⟩:=Ji H
 have F:=xC Y (Jg4 r1 (IntKind.i64.wrap (r5.2-1)) r6 hr6)
 obtain⟨r7,hr7,H⟩:=Ji H
 have F:=xCf F (Jp3 a1 r4 r7 hr7)
 obtain⟨g,H⟩:=Jc H
 have F:=xZ F (JH KL [(⟨r5.1,List.take (r5.2.toNat-r2.2.2.2.toNat) (List.drop r2.2.2.2.toNat r1.Text),r2.1,x3,a0,r4,IntKind.i64.wrap (r6+1),r7,([]:List (List UInt8)),([]:List Call),0⟩:Token)])
 refine xR ?_
 refine xr ?_
 exact Jw (JA H hF1) (xK ⟨[1,2],[6]⟩)
theorem Ju5(a0:Int)(a1:List UInt8)(r:(List Token)×Fault)(H:JeQ a0 a1=some r):PC JhD [dI a0,dS a1] (T2 (dL 11 Ja) JU r):=PF.c (a:=(a0,a1)) H
end Go.Proofs.YtfkhlbhjhdpkoaaGreatDoor
