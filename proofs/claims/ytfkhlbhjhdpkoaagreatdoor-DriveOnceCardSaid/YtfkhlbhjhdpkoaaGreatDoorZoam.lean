/- Functions of data for functions of the program. Written by dec3.py. -/
import Derived.Test.YtfkhlbhjhdpkoaaGreatDoorZoal
set_option linter.unusedVariables false
set_option linter.unusedSimpArgs false
set_option maxHeartbeats 4000000
set_option maxRecDepth 100000
namespace Go.Proofs.YtfkhlbhjhdpkoaaGreatDoor
open Go.RowKit
noncomputable def JcI:Bool→Option Int
 | x2=>if x2=true then some 3 else some 0
noncomputable def JcC(a0:List UInt8):Bool→Option Int
 | x1=>if x1=true then some 2 else if(leI 3 (a0.length:Int))=true then if(0:Int)≤0∧0≤3∧3≤(a0.length:Int) then JcI (eqS (List.take 3 a0) [92,13,10]) else none else JcI false
noncomputable def JbY(a0:List UInt8):Option Int :=
 if(leI 2 (a0.length:Int))=true then if(0:Int)≤0∧0≤2∧2≤(a0.length:Int) then JcC a0 (eqS (List.take 2 a0) [92,10]) else none else JcC a0 false
noncomputable def JgC:PF:=PF.of (E1 dS) (fun a=>JbY a) dI
theorem JpX:JC Tryz.prog 67 JgC:=by
 refine xF mixed [] [] trivial trivial Tryz.func67 ?_
 rintro a0 out H
 have G:=True.intro
 have Y:=xZ y_9 <| Tryz.results67
 simp only[JbY]at H
 refine xS ?_
 refine xr0 ?_
 refine Jk ?_
 refine Kv ?_
 refine Jas ?_
 refine Jo (JcC a0) (fun s=>[(0,cS a0),(3,cB s)]) (fun s=>[]) [] out ?_ ?_
 ·rcases xB Y G H with⟨p,H,F,G,q⟩|⟨p,H,F,G,q⟩
  ·obtain⟨g,H⟩:=Jc H
   refine xR ?_
   exact Jb H (xK ⟨[],[]⟩)
  refine xR ?_
  exact Jb H (xK ⟨[],[]⟩)
 rintro x1 H
 rw[JcC]at H
 rcases xB Y G H with⟨p,H,F,G,q⟩|⟨p,H,F,G,q⟩
 ·refine xT ?_
  replace H:=oI H
  refine xr ?_
  subst H
  exact xN
 refine xE0 ?_
 refine Jo JcI (fun s=>[(12,cB s)]) (fun s=>[]) [] out ?_ ?_
 ·rcases xB Y G H with⟨p,H,F,G,q⟩|⟨p,H,F,G,q⟩
  ·obtain⟨g,H⟩:=Jc H
   refine xR ?_
   exact Jb H (xK ⟨[],[]⟩)
  refine xR ?_
  exact Jb H (xK ⟨[],[]⟩)
 rintro x2 H
 rw[JcI]at H
 rcases xB Y G H with⟨p,H,F,G,q⟩|⟨p,H,F,G,q⟩
 ·refine xT ?_
  replace H:=oI H
  refine xr ?_
  subst H
  exact xN
 refine xE ?_
 replace H:=oI H
 refine xr ?_
 subst H
 exact xN
theorem Jjy(a0:List UInt8)(r:Int)(H:JbY a0=some r):PC JgC [dS a0] (dI r):=PF.c (a:=a0) H
noncomputable def JbB(a0 x1:List UInt8)(x2:List Int)(x3:Int)(x4:List UInt8):Bool→Option Yn
 | x5=>if x5=true then some (.inl (x1,x2,IntKind.i64.wrap (x3+1),x4)) else if(0:Int)≤x3∧x3.toNat<a0.length then if(x1.length + [(a0.getD x3.toNat 0)].length) * 1≤140737488355328 then if(x2.length + [x3].length) * 8≤140737488355328 then some (.inl (x1++[(a0.getD x3.toNat 0)],x2++[x3],IntKind.i64.wrap (x3+1),x4)) else none else none else none
noncomputable def Jdd(a0:List UInt8):((List UInt8)×(List Int)×Int×(List UInt8))→Option Yn
 | (x1,x2,x3,x4)=>if(ltI x3 (a0.length:Int))=true then if(0:Int)≤x3∧x3≤(a0.length:Int)∧(a0.length:Int)≤(a0.length:Int) then(JbY (List.drop x3.toNat a0)).bind fun r1=>if(ltI 0 r1)=true then if(0:Int)≤x3∧x3≤(a0.length:Int)∧(a0.length:Int)≤(a0.length:Int) then(JbY (List.drop x3.toNat a0)).bind fun r2=>some (.inl (x1,x2,IntKind.i64.wrap (x3+r2),x4)) else none else if(0:Int)≤x3∧x3.toNat<a0.length then if(eqI ((a0.getD x3.toNat 0).toNat:Int) 13)=true then if(ltI (IntKind.i64.wrap (x3+1)) (a0.length:Int))=true then if(0:Int)≤(IntKind.i64.wrap (x3+1))∧(IntKind.i64.wrap (x3+1)).toNat<a0.length then JbB a0 x1 x2 x3 x4 (eqI ((a0.getD ((IntKind.i64.wrap (x3+1)).toNat) 0).toNat:Int) 10) else none else JbB a0 x1 x2 x3 x4 false else JbB a0 x1 x2 x3 x4 false else none else none else inrO (if(x2.length + [(a0.length:Int)].length) * 8≤140737488355328 then some (⟨x1,x2++[(a0.length:Int)]⟩:Spliced) else none)
noncomputable def Jeb(a0:List UInt8):Option Spliced :=
 Jt (Jdd a0) (([]:List UInt8),([]:List Int),0,[])
noncomputable def Jg9:PF:=PF.of (E1 dS) (fun a=>Jeb a) JT
theorem JqG:JC Tryz.prog 47 Jg9:=by
 refine xF mixed [(67,JgC)] [] ⟨⟨JDZ,JpX⟩,trivial⟩ trivial Tryz.func47 ?_
 rintro a0 out H
 have G:=True.intro
 have Y:=xZ y_3 <| xZ y_5 <| xZ y_9 <| xZ y_25 <| xZ y_55 <| xZ y_70 <| xZ Tryz.results47 <| JT.eq_1
 simp only[Jeb]at H
 refine xS ?_
 refine xr ?_
 refine xr ?_
 refine xr ?_
 refine xr ?_
 refine JK (Jdd a0) (fun s=>[(0,cS a0),(2,.c (.pt 1 0)),(3,.c (.sl 1 (List.map dU s.1) 2)),(4,.c (.sl 1 (List.map dI s.2.1) 3)),(5,cI s.2.2.1)]) (fun s=>[[kS s.2.2.2,.sl 1 [] 0]]) [5,3] H (xK ⟨[1],[0,0]⟩) ?_
 rintro n1 ⟨x1,x2,x3,x4⟩ o1 H hF1
 rw[Jdd]at H
 refine xS ?_
 refine xr ?_
 rcases xB Y G H with⟨p,H,F,G,q⟩|⟨p,H,F,G,q⟩
 ·refine xT ?_
  obtain⟨g,H⟩:=Jc H
  obtain⟨r1,hr1,H⟩:=Jj H
  have F:=xC Y (Jjy (List.drop x3.toNat a0) r1 hr1)
  refine xR ?_
  rcases xB Y G H with⟨p,H,F,G,q⟩|⟨p,H,F,G,q⟩
  ·refine xT ?_
   obtain⟨g,H⟩:=Jc H
   obtain⟨r2,hr2,H⟩:=Jj H
   have F:=xC Y (Jjy (List.drop x3.toNat a0) r2 hr2)
   refine xR ?_
   exact Jw (JA H hF1) (xK ⟨[1],[2,3]⟩)
  refine xE0 ?_
  refine Jo (JbB a0 x1 x2 x3 x4) (fun s=>[(0,cS a0),(2,.c (.pt 1 0)),(3,.c (.sl 1 (List.map dU x1) 2)),(4,.c (.sl 1 (List.map dI x2) 3)),(5,cI x3),(22,cB s)]) (fun s=>[[kS x4,.sl 1 [] 0]]) [5,3] o1 ?_ ?_
  ·obtain⟨g,H⟩:=Jc H
   rcases xB Y G H with⟨p,H,F,G,q⟩|⟨p,H,F,G,q⟩
   ·rcases xB F G H with⟨p,H,F,G,q⟩|⟨p,H,F,G,q⟩
    ·obtain⟨g,H⟩:=Jc H
     refine xR ?_
     exact Jb H (xK ⟨[1],[2,3]⟩)
    refine xR ?_
    exact Jb H (xK ⟨[1],[2,3]⟩)
   refine xR ?_
   exact Jb H (xK ⟨[1],[2,3]⟩)
  rintro x5 H
  rw[JbB]at H
  rcases xB Y G H with⟨p,H,F,G,q⟩|⟨p,H,F,G,q⟩
  ·refine xT ?_
   refine xr ?_
   exact Jw (JA H hF1) (xK ⟨[1],[2,3]⟩)
  refine xE ?_
  obtain⟨g,H⟩:=Jc H
  obtain⟨g,H⟩:=Jc H
  have F:=xZ Y (JO JFk [(a0.getD x3.toNat 0)])
  obtain⟨g,H⟩:=Jc H
  have F:=xZ F (JO JjN [x3])
  refine xR ?_
  refine xr ?_
  exact Jw (JA H hF1) (xK ⟨[1],[4,5]⟩)
 replace H:=Jq H hF1
 refine xE ?_
 obtain⟨g,H⟩:=Jc H
 have F:=xZ Y (JO JjN [(a0.length:Int)])
 replace H:=oI H
 refine xR ?_
 subst H
 exact xN
theorem JuE(a0:List UInt8)(r:Spliced)(H:Jeb a0=some r):PC Jg9 [dS a0] (JT r):=PF.c (a:=a0) H
noncomputable def Ja8(a0:UInt8):Option Bool :=
 some (!eqI (a0.toNat:Int) 10)
noncomputable def JdN:PF:=PF.of (E1 dU) (fun a=>Ja8 a) dB
theorem JkF:JC Tryz.prog 69 JdN:=by
 refine xF mixed [] [] trivial trivial Tryz.func69 ?_
 rintro a0 out H
 have G:=True.intro
 have Y:=Tryz.results69
 simp only[Ja8]at H
 refine xS ?_
 refine xr ?_
 replace H:=oI H
 refine xr ?_
 subst H
 exact xN
theorem Jlw(a0:UInt8)(r:Bool)(H:Ja8 a0=some r):PC JdN [dU a0] (dB r):=PF.c (a:=a0) H
noncomputable def Jap(x1:Int):Bool→Option (Int ⊕ Int)
 | x2=>if x2=true then some (.inl (IntKind.i64.wrap (x1+1))) else inrO (some x1)
noncomputable def Jcr(a1:List UInt8):Int→Option (Int ⊕ Int)
 | x1=>if(ltI x1 (a1.length:Int))=true then if(0:Int)≤x1∧x1.toNat<a1.length then(Ja8 (a1.getD x1.toNat 0)).bind fun r1=>Jap x1 r1 else none else Jap x1 false
noncomputable def Jck(a0:Int)(a1:List UInt8)(a2:List Int)(a3:List UInt8)(a4 a5:Int)(a6:List Token):Option Int :=
 Jt (Jcr a1) a0
def JcZ(a0:Int)(a1:List UInt8)(a2:List Int)(a3:List UInt8)(a4 a5:Int)(a6:List Token)(r:Int):GI :=
 ⟨[.c (.pt 1 0),cI a0,.c (.d (.v (.func (.func 69) #[] #[])))],[[kS a1,.d (.sl 1 (List.map dI a2)),kS a3,kI a4,kI a5,.sl 11 (List.map Ja a6) 2]],[44],.ret (cI r) [[kS a1,.d (.sl 1 (List.map dI a2)),kS a3,kI a4,kI a5,.sl 11 (List.map Ja a6) 2]] [44]⟩
def Jc0:GI→Prop:=Sg7 Jck JcZ
theorem Jlz:∀ g,Jc0 g→Jn Tryz.prog 68 g:=by
 rintro _ ⟨a0,a1,a2,a3,a4,a5,a6,r,H,rfl⟩
 refine xGn mixed [(69,JdN)] [] [] ⟨⟨JEu,JkF⟩,trivial⟩ trivial trivial Tryz.func68 _ ?_
 have G:=True.intro
 have Y:=xZ y_9 <| xZ y_70 <| xZ y_99 <| xZ Tryz.results68 <| xZ Jm.eq_1 <| xZ Ja.eq_1 <| xZ JT.eq_1 <| JcZ.eq_1
 dsimp only[JcZ]
 simp only[Jck]at H
 refine xS ?_
 refine xr ?_
 refine JK (Jcr a1) (fun s=>[(0,.c (.pt 1 0)),(1,cI s),(2,.c (.d (.v (.func (.func 69) #[] #[]))))]) (fun s=>[[kS a1,.d (.sl 1 (List.map dI a2)),kS a3,kI a4,kI a5,.sl 11 (List.map Ja a6) 2]]) [44] H (xK ⟨[1],[2]⟩) ?_
 rintro n1 x1 o1 H hF1
 rw[Jcr]at H
 refine Kv ?_
 refine Jo (Jap x1) (fun s=>[(0,.c (.pt 1 0)),(1,cI x1),(2,.c (.d (.v (.func (.func 69) #[] #[])))),(25,cB s)]) (fun s=>[[kS a1,.d (.sl 1 (List.map dI a2)),kS a3,kI a4,kI a5,.sl 11 (List.map Ja a6) 2]]) [44] o1 ?_ ?_
 ·rcases xB Y G H with⟨p,H,F,G,q⟩|⟨p,H,F,G,q⟩
  ·obtain⟨g,H⟩:=Jc H
   obtain⟨r1,hr1,H⟩:=Jj H
   have F:=xCf F (Jlw (a1.getD x1.toNat 0) r1 hr1)
   refine xR ?_
   exact Jb H (xK ⟨[1],[2]⟩)
  refine xR ?_
  exact Jb H (xK ⟨[1],[2]⟩)
 rintro x2 H
 rw[Jap]at H
 rcases xB Y G H with⟨p,H,F,G,q⟩|⟨p,H,F,G,q⟩
 ·refine xT ?_
  refine xr ?_
  exact Jw (JA H hF1) (xK ⟨[1],[2]⟩)
 replace H:=Jq H hF1
 refine xE ?_
 replace H:=oI H
 refine xr ?_
 subst H
 refine xOr ?_
 refine qDf [] ?_
 exact xO ⟨[1],[2]⟩
theorem Jnz:Jd Tryz.prog 68∧(∀ g,Jc0 g→Jn Tryz.prog 68 g)∧(true=true→∀ g,Jc0 g→∃ val bs ts,g.out=.ret val bs ts) :=
 ⟨JqT,Jlz,fun _=>by rintro _ ⟨_,_,_,_,_,_,_,_,_,rfl⟩; exact⟨_,_,_,rfl⟩⟩
noncomputable def VN:(Bool×Int)→Option Ys
 | (x4,x5)=>some (.inl (true,x4,x5))
noncomputable def Jac(x3:Int):Bool→Option Ys
 | x8=>VN (x8,IntKind.i64.wrap (x3+1))
noncomputable def Z7(a0:List UInt8)(x1 x2:Bool)(x3 x12:Int):Bool→Option Yr
 | x13=>if x13=true then some (.inl (IntKind.i64.wrap (x12+1))) else inrO (if(leI (a0.length:Int) (IntKind.i64.wrap (x12+1)))=true then inrO (some (x1,x2,false,x3)) else VN (x2,IntKind.i64.wrap (x12+2)))
noncomputable def Jak(a0:List UInt8)(x1 x2:Bool)(x3:Int):Int→Option Yr
 | x12=>if(ltI (IntKind.i64.wrap (x12+1)) (a0.length:Int))=true then if(0:Int)≤x12∧x12≤(IntKind.i64.wrap (x12+2))∧(IntKind.i64.wrap (x12+2))≤(a0.length:Int) then Z7 a0 x1 x2 x3 x12 (!eqS (List.take ((IntKind.i64.wrap (x12+2)).toNat-x12.toNat) (List.drop x12.toNat a0)) [42,47]) else none else Z7 a0 x1 x2 x3 x12 false
noncomputable def Xy(a0:List UInt8)(x1 x2:Bool)(x3:Int):Bool→Option Ys
 | x11=>if x11=true then Jt (Jak a0 x1 x2 x3) (IntKind.i64.wrap (x3+2)) else inrO (some (x1,x2,true,x3))
noncomputable def Xv(a0:List UInt8)(a1:List Int)(a2:List UInt8)(a3:Int)(a5:List Token)(x1 x2:Bool)(x3:Int):Yc1→Option Ys
 | (x9,x10)=>if x10=true then(Jck x3 a0 a1 a2 a3 x3 a5).bind fun r1=>VN (x2,r1) else if(eqI (x9.toNat:Int) 47)=true then if(ltI (IntKind.i64.wrap (x3+1)) (a0.length:Int))=true then if(0:Int)≤(IntKind.i64.wrap (x3+1))∧(IntKind.i64.wrap (x3+1)).toNat<a0.length then Xy a0 x1 x2 x3 (eqI ((a0.getD ((IntKind.i64.wrap (x3+1)).toNat) 0).toNat:Int) 42) else none else Xy a0 x1 x2 x3 false else Xy a0 x1 x2 x3 false
noncomputable def Vb(a0:List UInt8)(a1:List Int)(a2:List UInt8)(a3:Int)(a5:List Token)(x1 x2:Bool)(x3:Int):Yc1→Option Ys
 | (x6,x7)=>if x7=true then if x2=true then Jac x3 true else Jac x3 (eqI (x6.toNat:Int) 10) else if(eqI (x6.toNat:Int) 47)=true then if(ltI (IntKind.i64.wrap (x3+1)) (a0.length:Int))=true then if(0:Int)≤(IntKind.i64.wrap (x3+1))∧(IntKind.i64.wrap (x3+1)).toNat<a0.length then Xv a0 a1 a2 a3 a5 x1 x2 x3 (x6,eqI ((a0.getD ((IntKind.i64.wrap (x3+1)).toNat) 0).toNat:Int) 47) else none else Xv a0 a1 a2 a3 a5 x1 x2 x3 (x6,false) else Xv a0 a1 a2 a3 a5 x1 x2 x3 (x6,false)
noncomputable def K8(a0:List UInt8)(a1:List Int)(a2:List UInt8)(a3:Int)(a5:List Token):(Bool×Bool×Int)→Option Ys
 | (x1,x2,x3)=>if(ltI x3 (a0.length:Int))=true then if(0:Int)≤x3∧x3.toNat<a0.length then if(eqI ((a0.getD x3.toNat 0).toNat:Int) 32)=true then Vb a0 a1 a2 a3 a5 x1 x2 x3 ((a0.getD x3.toNat 0),true) else if(eqI ((a0.getD x3.toNat 0).toNat:Int) 9)=true then Vb a0 a1 a2 a3 a5 x1 x2 x3 ((a0.getD x3.toNat 0),true) else if(eqI ((a0.getD x3.toNat 0).toNat:Int) 10)=true then Vb a0 a1 a2 a3 a5 x1 x2 x3 ((a0.getD x3.toNat 0),true) else Vb a0 a1 a2 a3 a5 x1 x2 x3 ((a0.getD x3.toNat 0),eqI ((a0.getD x3.toNat 0).toNat:Int) 13) else none else inrO (some (x1,x2,true,x3))
noncomputable def Jee(a0:List UInt8)(a1:List Int)(a2:List UInt8)(a3 a4:Int)(a5:List Token):Option YI :=
 Jt (K8 a0 a1 a2 a3 a5) (false,false,a4)
def JcY(a0:List UInt8)(a1:List Int)(a2:List UInt8)(a3 a4:Int)(a5:List Token)(r:YI):GI :=
 ⟨[.c (.pt 1 0)],[[kS a0,.d (.sl 1 (List.map dI a1)),kS a2,kI a3,kI a4,.sl 11 (List.map Ja a5) 2]],[44],.ret (.tu [(false,[kB r.1]),(false,[kB r.2.1]),(false,[kB r.2.2.1])]) [[kS a0,.d (.sl 1 (List.map dI a1)),kS a2,kI a3,kI r.2.2.2,.sl 11 (List.map Ja a5) 2]] [44]⟩
def JcS:GI→Prop:=Sg6 Jee JcY
theorem JmM:∀ g,JcS g→Jn Tryz.prog 48 g:=by
 rintro _ ⟨a0,a1,a2,a3,a4,a5,r,H,rfl⟩
 refine xGn mixed [] [(68,true,Jc0)] [] trivial ⟨Jnz,trivial⟩ trivial Tryz.func48 _ ?_
 have G:=True.intro
 have Y:=xZ y_3 <| xZ y_9 <| xZ y_70 <| xZ y_99 <| xZ Tryz.results48 <| xZ Jm.eq_1 <| xZ Ja.eq_1 <| xZ JT.eq_1 <| xZ JcZ.eq_1 <| JcY.eq_1
 dsimp only[JcY]
 simp only[Jee]at H
 refine xS ?_
 refine xr ?_
 refine xr ?_
 refine JK (K8 a0 a1 a2 a3 a5) (fun s=>[(0,.c (.pt 1 0)),(2,cB s.1),(3,cB s.2.1),(5,cS a0)]) (fun s=>[[kS a0,.d (.sl 1 (List.map dI a1)),kS a2,kI a3,kI s.2.2,.sl 11 (List.map Ja a5) 2]]) [44] H (xK ⟨[1],[2]⟩) ?_
 rintro n1 ⟨x1,x2,x3⟩ o1 H hF1
 rw[K8]at H
 refine xS ?_
 refine xr ?_
 rcases xB Y G H with⟨p,H,F,G,q⟩|⟨p,H,F,G,q⟩
 ·refine xT0 ?_
  refine V0 ?_
  refine Jk ?_
  refine Jas ?_
  refine Jo VN (fun s=>[(0,.c (.pt 1 0)),(3,cB s.1),(5,cS a0)]) (fun s=>[[kS a0,.d (.sl 1 (List.map dI a1)),kS a2,kI a3,kI s.2,.sl 11 (List.map Ja a5) 2]]) [44] o1 ?_ ?_
  ·refine xS ?_
   obtain⟨g,H⟩:=Jc H
   refine xr0 ?_
   refine Jk ?_
   refine Jas ?_
   refine Jo (Vb a0 a1 a2 a3 a5 x1 x2 x3) (fun s=>[(0,.c (.pt 1 0)),(2,cB x1),(3,cB x2),(5,cS a0),(6,.c (.d (.v (.int .u8 (s.1.toNat:Int))))),(28,cB s.2)]) (fun s=>[[kS a0,.d (.sl 1 (List.map dI a1)),kS a2,kI a3,kI x3,.sl 11 (List.map Ja a5) 2]]) [44] o1 ?_ ?_
   ·rcases xB Y G H with⟨p,H,F,G,q⟩|⟨p,H,F,G,q⟩
    ·refine xR ?_
     exact Jb H (xK ⟨[1],[2]⟩)
    rcases xB F G H with⟨p,H,F,G,q⟩|⟨p,H,F,G,q⟩
    ·refine xR ?_
     exact Jb H (xK ⟨[1],[2]⟩)
    rcases xB F G H with⟨p,H,F,G,q⟩|⟨p,H,F,G,q⟩
    ·refine xR ?_
     exact Jb H (xK ⟨[1],[2]⟩)
    refine xR ?_
    exact Jb H (xK ⟨[1],[2]⟩)
   rintro ⟨x6,x7⟩ H
   rw[Vb]at H
   rcases xB Y G H with⟨p,H,F,G,q⟩|⟨p,H,F,G,q⟩
   ·refine xT0 ?_
    refine Jo (Jac x3) (fun s=>[(0,.c (.pt 1 0)),(3,cB s),(5,cS a0)]) (fun s=>[[kS a0,.d (.sl 1 (List.map dI a1)),kS a2,kI a3,kI x3,.sl 11 (List.map Ja a5) 2]]) [44] o1 ?_ ?_
    ·rcases xB Y G H with⟨p,H,F,G,q⟩|⟨p,H,F,G,q⟩
     ·refine xR ?_
      exact Jb H (xK ⟨[1],[2]⟩)
     refine xR ?_
     exact Jb H (xK ⟨[1],[2]⟩)
    rintro x8 H
    rw[Jac]at H
    refine xr ?_
    exact Jb H (xK ⟨[1],[2]⟩)
   refine xE0 ?_
   refine Jo (Xv a0 a1 a2 a3 a5 x1 x2 x3) (fun s=>[(0,.c (.pt 1 0)),(2,cB x1),(3,cB x2),(5,cS a0),(6,.c (.d (.v (.int .u8 (s.1.toNat:Int))))),(55,cB s.2)]) (fun s=>[[kS a0,.d (.sl 1 (List.map dI a1)),kS a2,kI a3,kI x3,.sl 11 (List.map Ja a5) 2]]) [44] o1 ?_ ?_
   ·rcases xB Y G H with⟨p,H,F,G,q⟩|⟨p,H,F,G,q⟩
    ·rcases xB F G H with⟨p,H,F,G,q⟩|⟨p,H,F,G,q⟩
     ·obtain⟨g,H⟩:=Jc H
      refine xR ?_
      exact Jb H (xK ⟨[1],[2]⟩)
     refine xR ?_
     exact Jb H (xK ⟨[1],[2]⟩)
    refine xR ?_
    exact Jb H (xK ⟨[1],[2]⟩)
   rintro ⟨x9,x10⟩ H
   rw[Xv]at H
   rcases xB Y G H with⟨p,H,F,G,q⟩|⟨p,H,F,G,q⟩
   ·refine xT ?_
    obtain⟨r1,hr1,H⟩:=Jj H
    have F:=Y
    refine xQ ?_
    refine xs 6 ?_
    refine xc ⟨[1],[2]⟩ (tabG 0 (cg7 hr1)) ?_
    refine xs 3 ?_
    refine xl ?_
    refine xS ?_
    exact Jb H (xK ⟨[1],[4]⟩)
   refine xE0 ?_
   refine Jo (Xy a0 x1 x2 x3) (fun s=>[(0,.c (.pt 1 0)),(2,cB x1),(3,cB x2),(5,cS a0),(87,cB s)]) (fun s=>[[kS a0,.d (.sl 1 (List.map dI a1)),kS a2,kI a3,kI x3,.sl 11 (List.map Ja a5) 2]]) [44] o1 ?_ ?_
   ·rcases xB Y G H with⟨p,H,F,G,q⟩|⟨p,H,F,G,q⟩
    ·rcases xB F G H with⟨p,H,F,G,q⟩|⟨p,H,F,G,q⟩
     ·obtain⟨g,H⟩:=Jc H
      refine xR ?_
      exact Jb H (xK ⟨[1],[2]⟩)
     refine xR ?_
     exact Jb H (xK ⟨[1],[2]⟩)
    refine xR ?_
    exact Jb H (xK ⟨[1],[2]⟩)
   rintro x11 H
   rw[Xy]at H
   rcases xB Y G H with⟨p,H,F,G,q⟩|⟨p,H,F,G,q⟩
   ·refine xT ?_
    refine xr ?_
    refine JK (Jak a0 x1 x2 x3) (fun s=>[(0,.c (.pt 1 0)),(2,cB x1),(3,cB x2),(5,cS a0),(7,cI s)]) (fun s=>[[kS a0,.d (.sl 1 (List.map dI a1)),kS a2,kI a3,kI x3,.sl 11 (List.map Ja a5) 2]]) [44] H (xK ⟨[1],[2]⟩) ?_
    rintro n2 x12 o2 H hF2
    rw[Jak]at H
    refine Kv ?_
    refine Jo (Z7 a0 x1 x2 x3 x12) (fun s=>[(0,.c (.pt 1 0)),(2,cB x1),(3,cB x2),(5,cS a0),(7,cI x12),(127,cB s)]) (fun s=>[[kS a0,.d (.sl 1 (List.map dI a1)),kS a2,kI a3,kI x3,.sl 11 (List.map Ja a5) 2]]) [44] o2 ?_ ?_
    ·rcases xB Y G H with⟨p,H,F,G,q⟩|⟨p,H,F,G,q⟩
     ·obtain⟨g,H⟩:=Jc H
      refine xR ?_
      exact Jb H (xK ⟨[1],[2]⟩)
     refine xR ?_
     exact Jb H (xK ⟨[1],[2]⟩)
    rintro x13 H
    rw[Z7]at H
    rcases xB Y G H with⟨p,H,F,G,q⟩|⟨p,H,F,G,q⟩
    ·refine xT ?_
     refine xr ?_
     exact Jw (JA H hF2) (xK ⟨[1],[2]⟩)
    replace H:=Jq H hF2
    refine xE ?_
    refine xr ?_
    rcases xB Y G H with⟨p,H,F,G,q⟩|⟨p,H,F,G,q⟩
    ·refine xT ?_
     replace H:=Jq H hF1
     replace H:=oI H
     refine xr ?_
     subst H
     refine xOr ?_
     refine qDf [] ?_
     exact xO ⟨[1],[2]⟩
    refine xE ?_
    refine xr ?_
    exact Jb H (xK ⟨[1],[2]⟩)
   refine xE ?_
   replace H:=Jq H hF1
   replace H:=oI H
   refine xr ?_
   subst H
   refine xOr ?_
   refine qDf [] ?_
   exact xO ⟨[1],[2]⟩
  rintro ⟨x4,x5⟩ H
  rw[VN]at H
  refine xr ?_
  exact Jw (JA H hF1) (xK ⟨[1],[2]⟩)
 replace H:=Jq H hF1
 refine xE ?_
 replace H:=oI H
 refine xr ?_
 subst H
 refine xOr ?_
 refine qDf [] ?_
 exact xO ⟨[1],[2]⟩
theorem JnF:Jd Tryz.prog 48∧(∀ g,JcS g→Jn Tryz.prog 48 g)∧(true=true→∀ g,JcS g→∃ val bs ts,g.out=.ret val bs ts) :=
 ⟨JEJ,JmM,fun _=>by rintro _ ⟨_,_,_,_,_,_,_,_,rfl⟩; exact⟨_,_,_,rfl⟩⟩
noncomputable def JcA(a0:Spliced)(a1:Int):Bool→Option Int
 | x1=>if x1=true then some (-1) else if(0:Int)≤a1∧a1.toNat<a0.At.length then some (a0.At.getD a1.toNat default) else none
noncomputable def X7(a0:Spliced)(a1:Int):Option Int :=
 if(ltI a1 0)=true then JcA a0 a1 true else JcA a0 a1 (leI (a0.At.length:Int) a1)
noncomputable def Jgj:PF:=PF.of (E2 JT dI) (fun a=>X7 a.1 a.2) dI
theorem JoJ:JC Tryz.prog 49 Jgj:=by
 refine xF mixed [] [] trivial trivial Tryz.func49 ?_
 rintro ⟨a0,a1⟩ out H
 have G:=True.intro
 have Y:=xZ y_3 <| xZ y_25 <| xZ y_70 <| xZ Tryz.results49 <| JT.eq_1
 simp only[X7]at H
 refine xS ?_
 refine xr0 ?_
 refine Jk ?_
 refine Kv ?_
 refine Jo (JcA a0 a1) (fun s=>[(1,cI a1),(2,.c (.pt 1 0)),(13,cB s)]) (fun s=>[[kS a0.Text,.d (.sl 1 (List.map dI a0.At))]]) [] out ?_ ?_
 ·rcases xB Y G H with⟨p,H,F,G,q⟩|⟨p,H,F,G,q⟩
  ·refine xR ?_
   exact Jb H (xK ⟨[1],[]⟩)
  refine xR ?_
  exact Jb H (xK ⟨[1],[]⟩)
 rintro x1 H
 rw[JcA]at H
 rcases xB Y G H with⟨p,H,F,G,q⟩|⟨p,H,F,G,q⟩
 ·refine xT ?_
  replace H:=oI H
  refine xr ?_
  subst H
  exact xN
 refine xE ?_
 obtain⟨g,H⟩:=Jc H
 have F:=xZ Y (Jh dI a0.At a1.toNat default default (by omega))
 replace H:=oI H
 refine xR ?_
 subst H
 exact xN
theorem Jhc(a0:Spliced)(a1 r:Int)(H:X7 a0 a1=some r):PC Jgj [JT a0,dI a1] (dI r):=PF.c (a:=(a0,a1)) H
noncomputable def VP:Bool→Option Bool
 | x1=>some x1
noncomputable def Jct(a0:UInt8):Option Bool :=
 if(leI 97 (a0.toNat:Int))=true then if(leI (a0.toNat:Int) 122)=true then VP true else if(leI 65 (a0.toNat:Int))=true then if(leI (a0.toNat:Int) 90)=true then VP true else VP (eqI (a0.toNat:Int) 95) else VP (eqI (a0.toNat:Int) 95) else if(leI 65 (a0.toNat:Int))=true then if(leI (a0.toNat:Int) 90)=true then VP true else VP (eqI (a0.toNat:Int) 95) else VP (eqI (a0.toNat:Int) 95)
noncomputable def Jd2:PF:=PF.of (E1 dU) (fun a=>Jct a) dB
theorem JhH:JC Tryz.prog 70 Jd2:=by
 refine xF mixed [] [] trivial trivial Tryz.func70 ?_
 rintro a0 out H
 have G:=True.intro
 have Y:=Tryz.results70
 simp only[Jct]at H
 refine xS ?_
 refine xr0 ?_
 refine Jk ?_
 refine Jo VP (fun s=>[(2,cB s)]) (fun s=>[]) [] out ?_ ?_
 ·rcases xB Y G H with⟨p,H,F,G,q⟩|⟨p,H,F,G,q⟩
  ·rcases xB F G H with⟨p,H,F,G,q⟩|⟨p,H,F,G,q⟩
   ·refine xR ?_
    exact Jb H (xK ⟨[],[]⟩)
   rcases xB F G H with⟨p,H,F,G,q⟩|⟨p,H,F,G,q⟩
   ·rcases xB F G H with⟨p,H,F,G,q⟩|⟨p,H,F,G,q⟩
    ·refine xR ?_
     exact Jb H (xK ⟨[],[]⟩)
    refine xR ?_
    exact Jb H (xK ⟨[],[]⟩)
   refine xR ?_
   exact Jb H (xK ⟨[],[]⟩)
  rcases xB F G H with⟨p,H,F,G,q⟩|⟨p,H,F,G,q⟩
  ·rcases xB F G H with⟨p,H,F,G,q⟩|⟨p,H,F,G,q⟩
   ·refine xR ?_
    exact Jb H (xK ⟨[],[]⟩)
   refine xR ?_
   exact Jb H (xK ⟨[],[]⟩)
  refine xR ?_
  exact Jb H (xK ⟨[],[]⟩)
 rintro x1 H
 rw[VP]at H
 replace H:=oI H
 refine xS ?_
 subst H
 exact xN
theorem Jii(a0:UInt8)(r:Bool)(H:Jct a0=some r):PC Jd2 [dU a0] (dB r):=PF.c (a:=a0) H
noncomputable def Jet:Bool→Option Bool
 | x1=>some x1
noncomputable def JcN(a0:UInt8):Option Bool :=
 if(leI 48 (a0.toNat:Int))=true then Jet (leI (a0.toNat:Int) 57) else Jet false
noncomputable def JeE:PF:=PF.of (E1 dU) (fun a=>JcN a) dB
theorem Jil:JC Tryz.prog 72 JeE:=by
 refine xF mixed [] [] trivial trivial Tryz.func72 ?_
 rintro a0 out H
 have G:=True.intro
 have Y:=Tryz.results72
 simp only[JcN]at H
 refine xS ?_
 refine xr0 ?_
 refine Jk ?_
 refine Jo Jet (fun s=>[(2,cB s)]) (fun s=>[]) [] out ?_ ?_
 ·rcases xB Y G H with⟨p,H,F,G,q⟩|⟨p,H,F,G,q⟩
  ·refine xR ?_
   exact Jb H (xK ⟨[],[]⟩)
  refine xR ?_
  exact Jb H (xK ⟨[],[]⟩)
 rintro x1 H
 rw[Jet]at H
 replace H:=oI H
 refine xS ?_
 subst H
 exact xN
theorem Jhr(a0:UInt8)(r:Bool)(H:JcN a0=some r):PC JeE [dU a0] (dB r):=PF.c (a:=a0) H
noncomputable def Jao:Bool→Option Bool
 | x1=>some x1
noncomputable def Jax(a0:UInt8):Option Bool :=
 (Jct a0).bind fun r1=>if r1=true then Jao true else(JcN a0).bind fun r2=>Jao r2
noncomputable def JeD:PF:=PF.of (E1 dU) (fun a=>Jax a) dB
theorem Jmh:JC Tryz.prog 71 JeD:=by
 refine xF mixed [(70,Jd2),(72,JeE)] [] ⟨⟨JqB,JhH⟩,⟨Jq6,Jil⟩,trivial⟩ trivial Tryz.func71 ?_
 rintro a0 out H
 have G:=True.intro
 have Y:=Tryz.results71
 simp only[Jax]at H
 refine xS ?_
 refine xr0 ?_
 refine Jk ?_
 refine Jo Jao (fun s=>[(2,cB s)]) (fun s=>[]) [] out ?_ ?_
 ·obtain⟨r1,hr1,H⟩:=Jj H
  have F:=xC Y (Jii a0 r1 hr1)
  rcases xB F G H with⟨p,H,F,G,q⟩|⟨p,H,F,G,q⟩
  ·refine xR ?_
   exact Jb H (xK ⟨[],[]⟩)
  obtain⟨r2,hr2,H⟩:=Jj H
  have F:=xCf F (Jhr a0 r2 hr2)
  refine xR ?_
  exact Jb H (xK ⟨[],[]⟩)
 rintro x1 H
 rw[Jao]at H
 replace H:=oI H
 refine xS ?_
 subst H
 exact xN
theorem JnE(a0:UInt8)(r:Bool)(H:Jax a0=some r):PC JeD [dU a0] (dB r):=PF.c (a:=a0) H
noncomputable def XN(x1:Int):Bool→Option (Int ⊕ Int)
 | x2=>if x2=true then some (.inl (IntKind.i64.wrap (x1+1))) else inrO (some x1)
noncomputable def JaA(a1:List UInt8):Int→Option (Int ⊕ Int)
 | x1=>if(ltI x1 (a1.length:Int))=true then if(0:Int)≤x1∧x1.toNat<a1.length then(Jax (a1.getD x1.toNat 0)).bind fun r1=>XN x1 r1 else none else XN x1 false
noncomputable def Jaf(a0:Int)(a1:List UInt8)(a2:List Int)(a3:List UInt8)(a4 a5:Int)(a6:List Token):Option Int :=
 Jt (JaA a1) a0
def Jbu(a0:Int)(a1:List UInt8)(a2:List Int)(a3:List UInt8)(a4 a5:Int)(a6:List Token)(r:Int):GI :=
 ⟨[.c (.pt 1 0),cI a0,.c (.d (.v (.func (.func 71) #[] #[])))],[[kS a1,.d (.sl 1 (List.map dI a2)),kS a3,kI a4,kI a5,.sl 11 (List.map Ja a6) 2]],[44],.ret (cI r) [[kS a1,.d (.sl 1 (List.map dI a2)),kS a3,kI a4,kI a5,.sl 11 (List.map Ja a6) 2]] [44]⟩
def Jbs:GI→Prop:=Sg7 Jaf Jbu
theorem JjK:∀ g,Jbs g→Jn Tryz.prog 68 g:=by
 rintro _ ⟨a0,a1,a2,a3,a4,a5,a6,r,H,rfl⟩
 refine xGn mixed [(71,JeD)] [] [] ⟨⟨JDL,Jmh⟩,trivial⟩ trivial trivial Tryz.func68 _ ?_
 have G:=True.intro
 have Y:=xZ y_9 <| xZ y_70 <| xZ y_99 <| xZ Tryz.results68 <| xZ Jm.eq_1 <| xZ Ja.eq_1 <| xZ JT.eq_1 <| Jbu.eq_1
 dsimp only[Jbu]
 simp only[Jaf]at H
 refine xS ?_
 refine xr ?_
 refine JK (JaA a1) (fun s=>[(0,.c (.pt 1 0)),(1,cI s),(2,.c (.d (.v (.func (.func 71) #[] #[]))))]) (fun s=>[[kS a1,.d (.sl 1 (List.map dI a2)),kS a3,kI a4,kI a5,.sl 11 (List.map Ja a6) 2]]) [44] H (xK ⟨[1],[2]⟩) ?_
 rintro n1 x1 o1 H hF1
 rw[JaA]at H
 refine Kv ?_
 refine Jo (XN x1) (fun s=>[(0,.c (.pt 1 0)),(1,cI x1),(2,.c (.d (.v (.func (.func 71) #[] #[])))),(25,cB s)]) (fun s=>[[kS a1,.d (.sl 1 (List.map dI a2)),kS a3,kI a4,kI a5,.sl 11 (List.map Ja a6) 2]]) [44] o1 ?_ ?_
 ·rcases xB Y G H with⟨p,H,F,G,q⟩|⟨p,H,F,G,q⟩
  ·obtain⟨g,H⟩:=Jc H
   obtain⟨r1,hr1,H⟩:=Jj H
   have F:=xCf F (JnE (a1.getD x1.toNat 0) r1 hr1)
   refine xR ?_
   exact Jb H (xK ⟨[1],[2]⟩)
  refine xR ?_
  exact Jb H (xK ⟨[1],[2]⟩)
 rintro x2 H
 rw[XN]at H
 rcases xB Y G H with⟨p,H,F,G,q⟩|⟨p,H,F,G,q⟩
 ·refine xT ?_
  refine xr ?_
  exact Jw (JA H hF1) (xK ⟨[1],[2]⟩)
 replace H:=Jq H hF1
 refine xE ?_
 replace H:=oI H
 refine xr ?_
 subst H
 refine xOr ?_
 refine qDf [] ?_
 exact xO ⟨[1],[2]⟩
theorem Jj2:Jd Tryz.prog 68∧(∀ g,Jbs g→Jn Tryz.prog 68 g)∧(true=true→∀ g,Jbs g→∃ val bs ts,g.out=.ret val bs ts) :=
 ⟨JqT,JjK,fun _=>by rintro _ ⟨_,_,_,_,_,_,_,_,_,rfl⟩; exact⟨_,_,_,rfl⟩⟩
noncomputable def ZK(x1:Int):Unit→Option (Int ⊕ Int)
 | ()=>some (.inl (IntKind.i64.wrap (x1+1)))
noncomputable def Xa(x1:Int):Bool→Option (Int ⊕ Int)
 | x4=>if x4=true then inrO (some x1) else ZK x1 ()
noncomputable def Kc(x1:Int):Yc1→Option (Int ⊕ Int)
 | (x2,x3)=>if x3=true then ZK x1 () else if(!eqI (x2.toNat:Int) 46)=true then(Jct x2).bind fun r1=>if(!r1)=true then(JcN x2).bind fun r2=>Xa x1 (!r2) else Xa x1 false else Xa x1 false
noncomputable def ZA(a0:List UInt8)(a4:Int):Int→Option (Int ⊕ Int)
 | x1=>if(ltI x1 (a0.length:Int))=true then if(0:Int)≤x1∧x1.toNat<a0.length then if(eqI ((a0.getD x1.toNat 0).toNat:Int) 43)=true then if(ltI a4 x1)=true then if(0:Int)≤(IntKind.i64.wrap (x1-1))∧(IntKind.i64.wrap (x1-1)).toNat<a0.length then if(eqI ((a0.getD ((IntKind.i64.wrap (x1-1)).toNat) 0).toNat:Int) 101)=true then Kc x1 ((a0.getD x1.toNat 0),true) else if(0:Int)≤(IntKind.i64.wrap (x1-1))∧(IntKind.i64.wrap (x1-1)).toNat<a0.length then Kc x1 ((a0.getD x1.toNat 0),eqI ((a0.getD ((IntKind.i64.wrap (x1-1)).toNat) 0).toNat:Int) 69) else none else none else Kc x1 ((a0.getD x1.toNat 0),false) else if(eqI ((a0.getD x1.toNat 0).toNat:Int) 45)=true then if(ltI a4 x1)=true then if(0:Int)≤(IntKind.i64.wrap (x1-1))∧(IntKind.i64.wrap (x1-1)).toNat<a0.length then if(eqI ((a0.getD ((IntKind.i64.wrap (x1-1)).toNat) 0).toNat:Int) 101)=true then Kc x1 ((a0.getD x1.toNat 0),true) else if(0:Int)≤(IntKind.i64.wrap (x1-1))∧(IntKind.i64.wrap (x1-1)).toNat<a0.length then Kc x1 ((a0.getD x1.toNat 0),eqI ((a0.getD ((IntKind.i64.wrap (x1-1)).toNat) 0).toNat:Int) 69) else none else none else Kc x1 ((a0.getD x1.toNat 0),false) else Kc x1 ((a0.getD x1.toNat 0),false) else none else inrO (some x1)
noncomputable def JbS(a0:List UInt8)(a1:List Int)(a2:List UInt8)(a3 a4:Int)(a5:List Token):Option Int :=
 Jt (ZA a0 a4) a4
def Jcu(a0:List UInt8)(a1:List Int)(a2:List UInt8)(a3 a4:Int)(a5:List Token)(r:Int):GI :=
 ⟨[.c (.pt 1 0)],[[kS a0,.d (.sl 1 (List.map dI a1)),kS a2,kI a3,kI a4,.sl 11 (List.map Ja a5) 2]],[44],.ret (cI r) [[kS a0,.d (.sl 1 (List.map dI a1)),kS a2,kI a3,kI a4,.sl 11 (List.map Ja a5) 2]] [44]⟩
def JcG:GI→Prop:=Sg6 JbS Jcu
theorem Jll:∀ g,JcG g→Jn Tryz.prog 73 g:=by
 rintro _ ⟨a0,a1,a2,a3,a4,a5,r,H,rfl⟩
 refine xGn mixed [(70,Jd2),(72,JeE)] [] [] ⟨⟨JqB,JhH⟩,⟨Jq6,Jil⟩,trivial⟩ trivial trivial Tryz.func73 _ ?_
 have G:=True.intro
 have Y:=xZ y_3 <| xZ y_9 <| xZ y_70 <| xZ y_99 <| xZ Tryz.results73 <| xZ Jm.eq_1 <| xZ Ja.eq_1 <| xZ JT.eq_1 <| Jcu.eq_1
 dsimp only[Jcu]
 simp only[JbS]at H
 refine xS ?_
 refine xr ?_
 refine xr ?_
 refine xr ?_
 refine JK (ZA a0 a4) (fun s=>[(0,.c (.pt 1 0)),(3,cS a0),(4,cI s)]) (fun s=>[[kS a0,.d (.sl 1 (List.map dI a1)),kS a2,kI a3,kI a4,.sl 11 (List.map Ja a5) 2]]) [44] H (xK ⟨[1],[2]⟩) ?_
 rintro n1 x1 o1 H hF1
 rw[ZA]at H
 refine xS ?_
 refine xr ?_
 rcases xB Y G H with⟨p,H,F,G,q⟩|⟨p,H,F,G,q⟩
 ·refine xT0 ?_
  refine V0 ?_
  refine Jk ?_
  refine Jas ?_
  refine Jo (ZK x1) (fun s=>[(0,.c (.pt 1 0)),(3,cS a0),(4,cI x1)]) (fun s=>[[kS a0,.d (.sl 1 (List.map dI a1)),kS a2,kI a3,kI a4,.sl 11 (List.map Ja a5) 2]]) [44] o1 ?_ ?_
  ·refine xS ?_
   obtain⟨g,H⟩:=Jc H
   refine xr0 ?_
   refine Jk ?_
   refine Jas ?_
   refine Jo (Kc x1) (fun s=>[(0,.c (.pt 1 0)),(3,cS a0),(4,cI x1),(5,.c (.d (.v (.int .u8 (s.1.toNat:Int))))),(22,cB s.2)]) (fun s=>[[kS a0,.d (.sl 1 (List.map dI a1)),kS a2,kI a3,kI a4,.sl 11 (List.map Ja a5) 2]]) [44] o1 ?_ ?_
   ·rcases xB Y G H with⟨p,H,F,G,q⟩|⟨p,H,F,G,q⟩
    ·rcases xB F G H with⟨p,H,F,G,q⟩|⟨p,H,F,G,q⟩
     ·obtain⟨g,H⟩:=Jc H
      rcases xB F G H with⟨p,H,F,G,q⟩|⟨p,H,F,G,q⟩
      ·refine xR ?_
       exact Jb H (xK ⟨[1],[2]⟩)
      obtain⟨g,H⟩:=Jc H
      refine xR ?_
      exact Jb H (xK ⟨[1],[2]⟩)
     refine xR ?_
     exact Jb H (xK ⟨[1],[2]⟩)
    rcases xB F G H with⟨p,H,F,G,q⟩|⟨p,H,F,G,q⟩
    ·rcases xB F G H with⟨p,H,F,G,q⟩|⟨p,H,F,G,q⟩
     ·obtain⟨g,H⟩:=Jc H
      rcases xB F G H with⟨p,H,F,G,q⟩|⟨p,H,F,G,q⟩
      ·refine xR ?_
       exact Jb H (xK ⟨[1],[2]⟩)
      obtain⟨g,H⟩:=Jc H
      refine xR ?_
      exact Jb H (xK ⟨[1],[2]⟩)
     refine xR ?_
     exact Jb H (xK ⟨[1],[2]⟩)
    refine xR ?_
    exact Jb H (xK ⟨[1],[2]⟩)
   rintro ⟨x2,x3⟩ H
   rw[Kc]at H
   rcases xB Y G H with⟨p,H,F,G,q⟩|⟨p,H,F,G,q⟩
   ·refine xT ?_
    exact Jb H (xK ⟨[1],[2]⟩)
   refine xE0 ?_
   refine Jo (Xa x1) (fun s=>[(0,.c (.pt 1 0)),(3,cS a0),(4,cI x1),(51,cB s)]) (fun s=>[[kS a0,.d (.sl 1 (List.map dI a1)),kS a2,kI a3,kI a4,.sl 11 (List.map Ja a5) 2]]) [44] o1 ?_ ?_
   ·rcases xB Y G H with⟨p,H,F,G,q⟩|⟨p,H,F,G,q⟩
    ·obtain⟨r1,hr1,H⟩:=Jj H
     have F:=xCf F (Jii x2 r1 hr1)
     rcases xB F G H with⟨p,H,F,G,q⟩|⟨p,H,F,G,q⟩
     ·obtain⟨r2,hr2,H⟩:=Jj H
      have F:=xCf F (Jhr x2 r2 hr2)
      refine xR ?_
      exact Jb H (xK ⟨[1],[2]⟩)
     refine xR ?_
     exact Jb H (xK ⟨[1],[2]⟩)
    refine xR ?_
    exact Jb H (xK ⟨[1],[2]⟩)
   rintro x4 H
   rw[Xa]at H
   rcases xB Y G H with⟨p,H,F,G,q⟩|⟨p,H,F,G,q⟩
   ·refine xT ?_
    replace H:=Jq H hF1
    replace H:=oI H
    refine xr ?_
    subst H
    refine xOr ?_
    refine qDf [] ?_
    exact xO ⟨[1],[2]⟩
   refine xE ?_
   exact Jb H (xK ⟨[1],[2]⟩)
  rintro ⟨⟩ H
  rw[ZK]at H
  refine xr ?_
  exact Jw (JA H hF1) (xK ⟨[1],[2]⟩)
 replace H:=Jq H hF1
 refine xE ?_
 replace H:=oI H
 refine xr ?_
 subst H
 refine xOr ?_
 refine qDf [] ?_
 exact xO ⟨[1],[2]⟩
theorem JmU:Jd Tryz.prog 73∧(∀ g,JcG g→Jn Tryz.prog 73 g)∧(true=true→∀ g,JcG g→∃ val bs ts,g.out=.ret val bs ts) :=
 ⟨JEl,Jll,fun _=>by rintro _ ⟨_,_,_,_,_,_,_,_,rfl⟩; exact⟨_,_,_,rfl⟩⟩
noncomputable def V7:(UInt8×Int)→Option YO
 | (x5,x6)=>some (.inl (x5,IntKind.i64.wrap (x6+1)))
noncomputable def ZE(x2:Int):Yc1→Option YO
 | (x7,x8)=>if x8=true then V7 (x7,IntKind.i64.wrap (x2+1)) else V7 (x7,x2)
noncomputable def ZH(a1:List UInt8)(x2:Int):Yc1→Option YO
 | (x3,x4)=>if x4=true then if(0:Int)≤x2∧x2.toNat<a1.length then if(eqI ((a1.getD x2.toNat 0).toNat:Int) (x3.toNat:Int))=true then inrO (some (IntKind.i64.wrap (x2+1))) else if(eqI ((a1.getD x2.toNat 0).toNat:Int) 92)=true then if(ltI (IntKind.i64.wrap (x2+1)) (a1.length:Int))=true then if(0:Int)≤(IntKind.i64.wrap (x2+1))∧(IntKind.i64.wrap (x2+1)).toNat<a1.length then ZE x2 (x3,!eqI ((a1.getD ((IntKind.i64.wrap (x2+1)).toNat) 0).toNat:Int) 10) else none else ZE x2 (x3,false) else V7 (x3,x2) else none else inrO (some (-1))
noncomputable def ZD(a1:List UInt8):(UInt8×Int)→Option YO
 | (x1,x2)=>if(ltI x2 (a1.length:Int))=true then if(0:Int)≤x2∧x2.toNat<a1.length then ZH a1 x2 (x1,!eqI ((a1.getD x2.toNat 0).toNat:Int) 10) else none else ZH a1 x2 (x1,false)
noncomputable def ZS(a0:UInt8)(a1:List UInt8)(a2:List Int)(a3:List UInt8)(a4 a5:Int)(a6:List Token):Option Int :=
 Jt (ZD a1) (a0,IntKind.i64.wrap (a5+1))
def JcB(a0:UInt8)(a1:List UInt8)(a2:List Int)(a3:List UInt8)(a4 a5:Int)(a6:List Token)(r:Int):GI :=
 ⟨[.c (.pt 1 0),.c (.d (.v (.int .u8 (a0.toNat:Int))))],[[kS a1,.d (.sl 1 (List.map dI a2)),kS a3,kI a4,kI a5,.sl 11 (List.map Ja a6) 2]],[44],.ret (cI r) [[kS a1,.d (.sl 1 (List.map dI a2)),kS a3,kI a4,kI a5,.sl 11 (List.map Ja a6) 2]] [44]⟩
def JcF:GI→Prop:=Sg7 ZS JcB
theorem Jlu:∀ g,JcF g→Jn Tryz.prog 74 g:=by
 rintro _ ⟨a0,a1,a2,a3,a4,a5,a6,r,H,rfl⟩
 refine xGn mixed [] [] [] trivial trivial trivial Tryz.func74 _ ?_
 have G:=True.intro
 have Y:=xZ y_3 <| xZ y_9 <| xZ y_70 <| xZ y_99 <| xZ Tryz.results74 <| xZ Jm.eq_1 <| xZ Ja.eq_1 <| xZ JT.eq_1 <| JcB.eq_1
 dsimp only[JcB]
 simp only[ZS]at H
 refine xS ?_
 refine xr ?_
 refine xr ?_
 refine xr ?_
 refine JK (ZD a1) (fun s=>[(1,.c (.d (.v (.int .u8 (s.1.toNat:Int))))),(5,cS a1),(6,cI s.2)]) (fun s=>[[kS a1,.d (.sl 1 (List.map dI a2)),kS a3,kI a4,kI a5,.sl 11 (List.map Ja a6) 2]]) [44] H (xK ⟨[1],[2]⟩) ?_
 rintro n1 ⟨x1,x2⟩ o1 H hF1
 rw[ZD]at H
 refine Kv ?_
 refine Jo (ZH a1 x2) (fun s=>[(1,.c (.d (.v (.int .u8 (s.1.toNat:Int))))),(5,cS a1),(6,cI x2),(26,cB s.2)]) (fun s=>[[kS a1,.d (.sl 1 (List.map dI a2)),kS a3,kI a4,kI a5,.sl 11 (List.map Ja a6) 2]]) [44] o1 ?_ ?_
 ·rcases xB Y G H with⟨p,H,F,G,q⟩|⟨p,H,F,G,q⟩
  ·obtain⟨g,H⟩:=Jc H
   refine xR ?_
   exact Jb H (xK ⟨[1],[2]⟩)
  refine xR ?_
  exact Jb H (xK ⟨[1],[2]⟩)
 rintro ⟨x3,x4⟩ H
 rw[ZH]at H
 rcases xB Y G H with⟨p,H,F,G,q⟩|⟨p,H,F,G,q⟩
 ·refine xT0 ?_
  refine V0 ?_
  refine Jk ?_
  refine Jo V7 (fun s=>[(1,.c (.d (.v (.int .u8 (s.1.toNat:Int))))),(5,cS a1),(6,cI s.2)]) (fun s=>[[kS a1,.d (.sl 1 (List.map dI a2)),kS a3,kI a4,kI a5,.sl 11 (List.map Ja a6) 2]]) [44] o1 ?_ ?_
  ·refine xS ?_
   obtain⟨g,H⟩:=Jc H
   refine xr ?_
   refine xr ?_
   rcases xB Y G H with⟨p,H,F,G,q⟩|⟨p,H,F,G,q⟩
   ·refine xT ?_
    replace H:=Jq H hF1
    replace H:=oI H
    refine xr ?_
    subst H
    refine xOr ?_
    refine qDf [] ?_
    exact xO ⟨[1],[2]⟩
   refine xE ?_
   refine xr ?_
   rcases xB Y G H with⟨p,H,F,G,q⟩|⟨p,H,F,G,q⟩
   ·refine xT0 ?_
    refine Jo (ZE x2) (fun s=>[(1,.c (.d (.v (.int .u8 (s.1.toNat:Int))))),(5,cS a1),(6,cI x2),(50,cB s.2)]) (fun s=>[[kS a1,.d (.sl 1 (List.map dI a2)),kS a3,kI a4,kI a5,.sl 11 (List.map Ja a6) 2]]) [44] o1 ?_ ?_
    ·rcases xB Y G H with⟨p,H,F,G,q⟩|⟨p,H,F,G,q⟩
     ·obtain⟨g,H⟩:=Jc H
      refine xR ?_
      exact Jb H (xK ⟨[1],[2]⟩)
     refine xR ?_
     exact Jb H (xK ⟨[1],[2]⟩)
    rintro ⟨x7,x8⟩ H
    rw[ZE]at H
    rcases xB Y G H with⟨p,H,F,G,q⟩|⟨p,H,F,G,q⟩
    ·refine xT ?_
     refine xr ?_
     exact Jb H (xK ⟨[1],[2]⟩)
    refine xE ?_
    exact Jb H (xK ⟨[1],[2]⟩)
   refine xE ?_
   exact Jb H (xK ⟨[1],[2]⟩)
  rintro ⟨x5,x6⟩ H
  rw[V7]at H
  refine xr ?_
  exact Jw (JA H hF1) (xK ⟨[1],[2]⟩)
 replace H:=Jq H hF1
 refine xE ?_
 replace H:=oI H
 refine xr ?_
 subst H
 refine xOr ?_
 refine qDf [] ?_
 exact xO ⟨[1],[2]⟩
theorem JlG:Jd Tryz.prog 74∧(∀ g,JcF g→Jn Tryz.prog 74 g)∧(true=true→∀ g,JcF g→∃ val bs ts,g.out=.ret val bs ts) :=
 ⟨JDG,Jlu,fun _=>by rintro _ ⟨_,_,_,_,_,_,_,_,_,rfl⟩; exact⟨_,_,_,rfl⟩⟩
noncomputable def ZI:Bool→Option Bool
 | x1=>some x1
noncomputable def JbR(a0:UInt8):Option Bool :=
 if(!eqI (a0.toNat:Int) 62)=true then ZI (!eqI (a0.toNat:Int) 10) else ZI false
noncomputable def Jed:PF:=PF.of (E1 dU) (fun a=>JbR a) dB
theorem Jlv:JC Tryz.prog 100 Jed:=by
 refine xF mixed [] [] trivial trivial Tryz.func100 ?_
 rintro a0 out H
 have G:=True.intro
 have Y:=Tryz.results100
 simp only[JbR]at H
 refine xS ?_
 refine xr0 ?_
 refine Jk ?_
 refine Jo ZI (fun s=>[(2,cB s)]) (fun s=>[]) [] out ?_ ?_
 ·rcases xB Y G H with⟨p,H,F,G,q⟩|⟨p,H,F,G,q⟩
  ·refine xR ?_
   exact Jb H (xK ⟨[],[]⟩)
  refine xR ?_
  exact Jb H (xK ⟨[],[]⟩)
 rintro x1 H
 rw[ZI]at H
 replace H:=oI H
 refine xS ?_
 subst H
 exact xN
theorem JmQ(a0:UInt8)(r:Bool)(H:JbR a0=some r):PC Jed [dU a0] (dB r):=PF.c (a:=a0) H
noncomputable def XJ(x1:Int):Bool→Option (Int ⊕ Int)
 | x2=>if x2=true then some (.inl (IntKind.i64.wrap (x1+1))) else inrO (some x1)
noncomputable def Jaw(a1:List UInt8):Int→Option (Int ⊕ Int)
 | x1=>if(ltI x1 (a1.length:Int))=true then if(0:Int)≤x1∧x1.toNat<a1.length then(JbR (a1.getD x1.toNat 0)).bind fun r1=>XJ x1 r1 else none else XJ x1 false
noncomputable def Z8(a0:Int)(a1:List UInt8)(a2:List Int)(a3:List UInt8)(a4 a5:Int)(a6:List Token):Option Int :=
 Jt (Jaw a1) a0
def Jbd(a0:Int)(a1:List UInt8)(a2:List Int)(a3:List UInt8)(a4 a5:Int)(a6:List Token)(r:Int):GI :=
 ⟨[.c (.pt 1 0),cI a0,.c (.d (.v (.func (.func 100) #[] #[])))],[[kS a1,.d (.sl 1 (List.map dI a2)),kS a3,kI a4,kI a5,.sl 11 (List.map Ja a6) 2]],[44],.ret (cI r) [[kS a1,.d (.sl 1 (List.map dI a2)),kS a3,kI a4,kI a5,.sl 11 (List.map Ja a6) 2]] [44]⟩
def Jbv:GI→Prop:=Sg7 Z8 Jbd
theorem JjX:∀ g,Jbv g→Jn Tryz.prog 68 g:=by
 rintro _ ⟨a0,a1,a2,a3,a4,a5,a6,r,H,rfl⟩
 refine xGn mixed [(100,Jed)] [] [] ⟨⟨JBL,Jlv⟩,trivial⟩ trivial trivial Tryz.func68 _ ?_
 have G:=True.intro
 have Y:=xZ y_9 <| xZ y_70 <| xZ y_99 <| xZ Tryz.results68 <| xZ Jm.eq_1 <| xZ Ja.eq_1 <| xZ JT.eq_1 <| Jbd.eq_1
 dsimp only[Jbd]
 simp only[Z8]at H
 refine xS ?_
 refine xr ?_
 refine JK (Jaw a1) (fun s=>[(0,.c (.pt 1 0)),(1,cI s),(2,.c (.d (.v (.func (.func 100) #[] #[]))))]) (fun s=>[[kS a1,.d (.sl 1 (List.map dI a2)),kS a3,kI a4,kI a5,.sl 11 (List.map Ja a6) 2]]) [44] H (xK ⟨[1],[2]⟩) ?_
 rintro n1 x1 o1 H hF1
 rw[Jaw]at H
 refine Kv ?_
 refine Jo (XJ x1) (fun s=>[(0,.c (.pt 1 0)),(1,cI x1),(2,.c (.d (.v (.func (.func 100) #[] #[])))),(25,cB s)]) (fun s=>[[kS a1,.d (.sl 1 (List.map dI a2)),kS a3,kI a4,kI a5,.sl 11 (List.map Ja a6) 2]]) [44] o1 ?_ ?_
 ·rcases xB Y G H with⟨p,H,F,G,q⟩|⟨p,H,F,G,q⟩
  ·obtain⟨g,H⟩:=Jc H
   obtain⟨r1,hr1,H⟩:=Jj H
   have F:=xCf F (JmQ (a1.getD x1.toNat 0) r1 hr1)
   refine xR ?_
   exact Jb H (xK ⟨[1],[2]⟩)
  refine xR ?_
  exact Jb H (xK ⟨[1],[2]⟩)
 rintro x2 H
 rw[XJ]at H
 rcases xB Y G H with⟨p,H,F,G,q⟩|⟨p,H,F,G,q⟩
 ·refine xT ?_
  refine xr ?_
  exact Jw (JA H hF1) (xK ⟨[1],[2]⟩)
 replace H:=Jq H hF1
 refine xE ?_
 replace H:=oI H
 refine xr ?_
 subst H
 refine xOr ?_
 refine qDf [] ?_
 exact xO ⟨[1],[2]⟩
theorem JkL:Jd Tryz.prog 68∧(∀ g,Jbv g→Jn Tryz.prog 68 g)∧(true=true→∀ g,Jbv g→∃ val bs ts,g.out=.ret val bs ts) :=
 ⟨JqT,JjX,fun _=>by rintro _ ⟨_,_,_,_,_,_,_,_,_,rfl⟩; exact⟨_,_,_,rfl⟩⟩
noncomputable def Ja5(r1:Int):Bool→Option Int
 | x2=>if x2=true then some (IntKind.i64.wrap (r1+1)) else some (-1)
noncomputable def J6(a0:List UInt8)(a1:List Int)(a2:List UInt8)(a3 a4:Int)(a5:List Token):Bool→Option Int
 | x1=>if x1=true then some (-1) else(Z8 (IntKind.i64.wrap (a4+1)) a0 a1 a2 a3 a4 a5).bind fun r1=>if(ltI r1 (a0.length:Int))=true then if(0:Int)≤r1∧r1.toNat<a0.length then Ja5 r1 (eqI ((a0.getD r1.toNat 0).toNat:Int) 62) else none else Ja5 r1 false
noncomputable def JbI(a0:List UInt8)(a1:List Int)(a2:List UInt8)(a3 a4:Int)(a5:List Token):Option Int :=
 if(ltI (a5.length:Int) 2)=true then J6 a0 a1 a2 a3 a4 a5 true else if(0:Int)≤(IntKind.i64.wrap ((a5.length:Int)-1))∧(IntKind.i64.wrap ((a5.length:Int)-1)).toNat<a5.length then if(!eqS ((a5.getD ((IntKind.i64.wrap ((a5.length:Int)-1)).toNat) default).Text) [105,110,99,108,117,100,101])=true then J6 a0 a1 a2 a3 a4 a5 true else if(0:Int)≤(IntKind.i64.wrap ((a5.length:Int)-1))∧(IntKind.i64.wrap ((a5.length:Int)-1)).toNat<a5.length then if((a5.getD ((IntKind.i64.wrap ((a5.length:Int)-1)).toNat) default).First)=true then J6 a0 a1 a2 a3 a4 a5 true else if(0:Int)≤(IntKind.i64.wrap ((a5.length:Int)-2))∧(IntKind.i64.wrap ((a5.length:Int)-2)).toNat<a5.length then if(!((a5.getD ((IntKind.i64.wrap ((a5.length:Int)-2)).toNat) default).First))=true then J6 a0 a1 a2 a3 a4 a5 true else if(0:Int)≤(IntKind.i64.wrap ((a5.length:Int)-2))∧(IntKind.i64.wrap ((a5.length:Int)-2)).toNat<a5.length then J6 a0 a1 a2 a3 a4 a5 (!eqS ((a5.getD ((IntKind.i64.wrap ((a5.length:Int)-2)).toNat) default).Text) [35]) else none else none else none else none
def Jdz(a0:List UInt8)(a1:List Int)(a2:List UInt8)(a3 a4:Int)(a5:List Token)(r:Int):GI :=
 ⟨[.c (.pt 1 0)],[[kS a0,.d (.sl 1 (List.map dI a1)),kS a2,kI a3,kI a4,.sl 11 (List.map Ja a5) 2]],[44],.ret (cI r) [[kS a0,.d (.sl 1 (List.map dI a1)),kS a2,kI a3,kI a4,.sl 11 (List.map Ja a5) 2]] [44]⟩
def JdC:GI→Prop:=Sg6 JbI Jdz
theorem JnH:∀ g,JdC g→Jn Tryz.prog 75 g:=by
 rintro _ ⟨a0,a1,a2,a3,a4,a5,r,H,rfl⟩
 refine xGn mixed [] [(68,true,Jbv)] [] trivial ⟨JkL,trivial⟩ trivial Tryz.func75 _ ?_
 have G:=True.intro
 have Y:=xZ y_3 <| xZ y_4 <| xZ y_9 <| xZ y_24 <| xZ y_44 <| xZ y_70 <| xZ y_99 <| xZ Tryz.results75 <| xZ Jm.eq_1 <| xZ Ja.eq_1 <| xZ JT.eq_1 <| xZ Jbd.eq_1 <| Jdz.eq_1
 dsimp only[Jdz]
 simp only[JbI]at H
 refine xS ?_
 refine xr ?_
 refine xr0 ?_
 refine Jk ?_
 refine Kv ?_
 refine Jo (J6 a0 a1 a2 a3 a4 a5) (fun s=>[(0,.c (.pt 1 0)),(58,cB s)]) (fun s=>[[kS a0,.d (.sl 1 (List.map dI a1)),kS a2,kI a3,kI a4,.sl 11 (List.map Ja a5) 2]]) [44] r ?_ ?_
 ·rcases xB Y G H with⟨p,H,F,G,q⟩|⟨p,H,F,G,q⟩
  ·refine xR ?_
   exact Jb H (xK ⟨[1],[2]⟩)
  obtain⟨g,H⟩:=Jc H
  have F:=xZ F (Jh Ja a5 ((IntKind.i64.wrap ((a5.length:Int)-1)).toNat) default default (by omega))
  rcases xB F G H with⟨p,H,F,G,q⟩|⟨p,H,F,G,q⟩
  ·refine xR ?_
   exact Jb H (xK ⟨[1],[2]⟩)
  obtain⟨g,H⟩:=Jc H
  have F:=xZ F (Jh Ja a5 ((IntKind.i64.wrap ((a5.length:Int)-1)).toNat) default default (by omega))
  rcases xB F G H with⟨p,H,F,G,q⟩|⟨p,H,F,G,q⟩
  ·refine xR ?_
   exact Jb H (xK ⟨[1],[2]⟩)
  obtain⟨g,H⟩:=Jc H
  have F:=xZ F (Jh Ja a5 ((IntKind.i64.wrap ((a5.length:Int)-2)).toNat) default default (by omega))
  rcases xB F G H with⟨p,H,F,G,q⟩|⟨p,H,F,G,q⟩
  ·refine xR ?_
   exact Jb H (xK ⟨[1],[2]⟩)
  obtain⟨g,H⟩:=Jc H
  have F:=xZ F (Jh Ja a5 ((IntKind.i64.wrap ((a5.length:Int)-2)).toNat) default default (by omega))
  refine xR ?_
  exact Jb H (xK ⟨[1],[2]⟩)
 rintro x1 H
 rw[J6]at H
 rcases xB Y G H with⟨p,H,F,G,q⟩|⟨p,H,F,G,q⟩
 ·refine xT ?_
  replace H:=oI H
  refine xr ?_
  subst H
  refine xOr ?_
  refine qDf [] ?_
  exact xO ⟨[1],[2]⟩
 refine xE ?_
 obtain⟨r1,hr1,H⟩:=Jj H
 have F:=Y
 refine xQ ?_
 refine xs 6 ?_
 refine xc ⟨[1],[2]⟩ (tabG 0 (cg7 hr1)) ?_
 refine xs 1 ?_
 refine xl ?_
 refine  ?_
 refine Jk ?_
 refine Kv ?_
 refine Jo (Ja5 r1) (fun s=>[(4,cI r1),(83,cB s)]) (fun s=>[[kS a0,.d (.sl 1 (List.map dI a1)),kS a2,kI a3,kI a4,.sl 11 (List.map Ja a5) 2]]) [44] r ?_ ?_
 ·rcases xB Y G H with⟨p,H,F,G,q⟩|⟨p,H,F,G,q⟩
  ·obtain⟨g,H⟩:=Jc H
   refine xR ?_
   exact Jb H (xK ⟨[1],[4]⟩)
  refine xR ?_
  exact Jb H (xK ⟨[1],[4]⟩)
 rintro x2 H
 rw[Ja5]at H
 rcases xB Y G H with⟨p,H,F,G,q⟩|⟨p,H,F,G,q⟩
 ·refine xT ?_
  replace H:=oI H
  refine xr ?_
  subst H
  refine xOr ?_
  refine qDf [] ?_
  exact xO ⟨[1],[2]⟩
 refine xE ?_
 replace H:=oI H
 refine xr ?_
 subst H
 refine xOr ?_
 refine qDf [] ?_
 exact xO ⟨[1],[2]⟩
theorem Jn3:Jd Tryz.prog 75∧(∀ g,JdC g→Jn Tryz.prog 75 g)∧(true=true→∀ g,JdC g→∃ val bs ts,g.out=.ret val bs ts) :=
 ⟨JD4,JnH,fun _=>by rintro _ ⟨_,_,_,_,_,_,_,_,rfl⟩; exact⟨_,_,_,rfl⟩⟩
noncomputable def Jht  : Option YX :=
 some [[46,46,46],[60,60,61],[62,62,61],[45,62],[43,43],[45,45],[60,60],[62,62],[60,61],[62,61],[61,61],[33,61],[38,38],[124,124],[43,61],[45,61],[42,61],[47,61],[37,61],[38,61],[124,61],[94,61],[35,35],[91],[93],[40],[41],[123],[125],[46],[38],[42],[43],[45],[126],[33],[47],[37],[60],[62],[94],[124],[63],[58],[59],[61],[44],[35]]
noncomputable def Jiq:PF:=PF.of E0 (fun _=>Jht) (dL 1 dS)
theorem Ju4:JC Tryz.prog 101 Jiq:=by
 refine xF mixed [] [] trivial trivial Tryz.func101 ?_
 rintro _ out H
 have G:=True.intro
 have Y:=xZ y_9 <| xZ y_41 <| Tryz.results101
 simp only[Jht]at H
 refine xS ?_
 refine xr ?_
 replace H:=oI H
 refine xr ?_
 subst H
 exact xN
theorem JxJ  (r:YX) (H:Jht  = some r):PC Jiq [] ((dL 1 dS) r):=PF.c (a:=()) H
noncomputable def JaZ(a4 x1 x2:Int):((List UInt8)×Bool)→Option YY
 | (x3,x4)=>if x4=true then inrO (some (IntKind.i64.wrap (a4+(x3.length:Int)))) else some (.inl (x1,IntKind.i64.wrap (x2+1)))
noncomputable def Ja6(a0:List UInt8)(a4:Int)(r1:YX):(Int×Int)→Option YY
 | (x1,x2)=>if(ltI x2 x1)=true then if(0:Int)≤x2∧x2.toNat<r1.length then if(leI ((r1.getD x2.toNat default).length:Int) (IntKind.i64.wrap ((a0.length:Int)-a4)))=true then if(0:Int)≤a4∧a4≤(IntKind.i64.wrap (a4+((r1.getD x2.toNat default).length:Int)))∧(IntKind.i64.wrap (a4+((r1.getD x2.toNat default).length:Int)))≤(a0.length:Int) then JaZ a4 x1 x2 ((r1.getD x2.toNat default),eqS (List.take ((IntKind.i64.wrap (a4+((r1.getD x2.toNat default).length:Int))).toNat-a4.toNat) (List.drop a4.toNat a0)) (r1.getD x2.toNat default)) else none else JaZ a4 x1 x2 ((r1.getD x2.toNat default),false) else none else inrO (some (-1))
noncomputable def JbF(a0:List UInt8)(a1:List Int)(a2:List UInt8)(a3 a4:Int)(a5:List Token):Option Int :=
 (Jht).bind fun r1=>Jt (Ja6 a0 a4 r1) ((r1.length:Int),0)
def JdF(a0:List UInt8)(a1:List Int)(a2:List UInt8)(a3 a4:Int)(a5:List Token)(r:Int):GI :=
 ⟨[.c (.pt 1 0)],[[kS a0,.d (.sl 1 (List.map dI a1)),kS a2,kI a3,kI a4,.sl 11 (List.map Ja a5) 2]],[44],.ret (cI r) [[kS a0,.d (.sl 1 (List.map dI a1)),kS a2,kI a3,kI a4,.sl 11 (List.map Ja a5) 2]] [44]⟩
def JdG:GI→Prop:=Sg6 JbF JdF
theorem JnG:∀ g,JdG g→Jn Tryz.prog 76 g:=by
 rintro _ ⟨a0,a1,a2,a3,a4,a5,r,H,rfl⟩
 refine xGn mixed [(101,Jiq)] [] [] ⟨⟨JCg,Ju4⟩,trivial⟩ trivial trivial Tryz.func76 _ ?_
 have G:=True.intro
 have Y:=xZ y_3 <| xZ y_9 <| xZ y_41 <| xZ y_70 <| xZ y_99 <| xZ Tryz.results76 <| xZ Jm.eq_1 <| xZ Ja.eq_1 <| xZ JT.eq_1 <| JdF.eq_1
 dsimp only[JdF]
 simp only[JbF]at H
 refine xS ?_
 refine xr ?_
 obtain⟨r1,hr1,H⟩:=Jj H
 have F:=xC Y (JxJ  r1 hr1)
 refine xR ?_
 refine JK (Ja6 a0 a4 r1) (fun s=>[(0,.c (.pt 1 0)),(5,.c (.d (.sl 1 (List.map dS r1)))),(6,cI s.1),(7,cI s.2)]) (fun s=>[[kS a0,.d (.sl 1 (List.map dI a1)),kS a2,kI a3,kI a4,.sl 11 (List.map Ja a5) 2]]) [44] H (xK ⟨[1],[2]⟩) ?_
 rintro n1 ⟨x1,x2⟩ o1 H hF1
 rw[Ja6]at H
 refine xS ?_
 refine xr ?_
 rcases xB Y G H with⟨p,H,F,G,q⟩|⟨p,H,F,G,q⟩
 ·refine xT ?_
  obtain⟨g,H⟩:=Jc H
  have F:=xZ Y (Jh dS r1 x2.toNat default default (by omega))
  refine xR0 ?_
  refine Jk ?_
  refine Jo (JaZ a4 x1 x2) (fun s=>[(0,.c (.pt 1 0)),(4,cS s.1),(5,.c (.d (.sl 1 (List.map dS r1)))),(6,cI x1),(7,cI x2),(45,cB s.2)]) (fun s=>[[kS a0,.d (.sl 1 (List.map dI a1)),kS a2,kI a3,kI a4,.sl 11 (List.map Ja a5) 2]]) [44] o1 ?_ ?_
  ·rcases xB Y G H with⟨p,H,F,G,q⟩|⟨p,H,F,G,q⟩
   ·obtain⟨g,H⟩:=Jc H
    refine xR ?_
    exact Jb H (xK ⟨[1],[2]⟩)
   refine xR ?_
   exact Jb H (xK ⟨[1],[2]⟩)
  rintro ⟨x3,x4⟩ H
  rw[JaZ]at H
  rcases xB Y G H with⟨p,H,F,G,q⟩|⟨p,H,F,G,q⟩
  ·refine xT ?_
   replace H:=Jq H hF1
   replace H:=oI H
   refine xr ?_
   subst H
   refine xOr ?_
   refine qDf [] ?_
   exact xO ⟨[1],[2]⟩
  refine xE ?_
  refine xr ?_
  exact Jw (JA H hF1) (xK ⟨[1],[2]⟩)
 replace H:=Jq H hF1
 refine xE ?_
 replace H:=oI H
 refine xr ?_
 subst H
 refine xOr ?_
 refine qDf [] ?_
 exact xO ⟨[1],[2]⟩
theorem Jol:Jd Tryz.prog 76∧(∀ g,JdG g→Jn Tryz.prog 76 g)∧(true=true→∀ g,JdG g→∃ val bs ts,g.out=.ret val bs ts) :=
 ⟨JEm,JnG,fun _=>by rintro _ ⟨_,_,_,_,_,_,_,_,rfl⟩; exact⟨_,_,_,rfl⟩⟩
noncomputable def Xm(a1:List UInt8)(a2:List Int)(a3:List UInt8)(a4 a5:Int)(a6:List Token):Bool→Option (Int×Int)
 | x3=>if x3=true then(JbI a1 a2 a3 a4 a5 a6).bind fun r6=>some (7,r6) else(JbF a1 a2 a3 a4 a5 a6).bind fun r7=>if(ltI 0 r7)=true then(JbF a1 a2 a3 a4 a5 a6).bind fun r8=>some (5,r8) else some (6,IntKind.i64.wrap (a5+1))
noncomputable def VB(a0:Bool)(a1:List UInt8)(a2:List Int)(a3:List UInt8)(a4 a5:Int)(a6:List Token):Yc1→Option (Int×Int)
 | (x1,x2)=>if x2=true then(JbS a1 a2 a3 a4 a5 a6).bind fun r3=>some (2,r3) else if(eqI (x1.toNat:Int) 34)=true then(ZS x1 a1 a2 a3 a4 a5 a6).bind fun r4=>some (4,r4) else if(eqI (x1.toNat:Int) 39)=true then(ZS x1 a1 a2 a3 a4 a5 a6).bind fun r5=>some (3,r5) else if(eqI (x1.toNat:Int) 60)=true then if(!a0)=true then(JbI a1 a2 a3 a4 a5 a6).bind fun r9=>Xm a1 a2 a3 a4 a5 a6 (ltI 0 r9) else Xm a1 a2 a3 a4 a5 a6 false else Xm a1 a2 a3 a4 a5 a6 false
noncomputable def Jcg(a0:Bool)(a1:List UInt8)(a2:List Int)(a3:List UInt8)(a4 a5:Int)(a6:List Token):Option (Int×Int) :=
 if(0:Int)≤a5∧a5.toNat<a1.length then(Jct (a1.getD a5.toNat 0)).bind fun r1=>if r1=true then(Jaf a5 a1 a2 a3 a4 a5 a6).bind fun r2=>some (1,r2) else(JcN (a1.getD a5.toNat 0)).bind fun r10=>if r10=true then VB a0 a1 a2 a3 a4 a5 a6 ((a1.getD a5.toNat 0),true) else if(eqI ((a1.getD a5.toNat 0).toNat:Int) 46)=true then if(ltI (IntKind.i64.wrap (a5+1)) (a1.length:Int))=true then if(0:Int)≤(IntKind.i64.wrap (a5+1))∧(IntKind.i64.wrap (a5+1)).toNat<a1.length then(JcN (a1.getD ((IntKind.i64.wrap (a5+1)).toNat) 0)).bind fun r11=>VB a0 a1 a2 a3 a4 a5 a6 ((a1.getD a5.toNat 0),r11) else none else VB a0 a1 a2 a3 a4 a5 a6 ((a1.getD a5.toNat 0),false) else VB a0 a1 a2 a3 a4 a5 a6 ((a1.getD a5.toNat 0),false) else none
def Jeq(a0:Bool)(a1:List UInt8)(a2:List Int)(a3:List UInt8)(a4 a5:Int)(a6:List Token)(r:(Int×Int)):GI :=
 ⟨[.c (.pt 1 0),cB a0],[[kS a1,.d (.sl 1 (List.map dI a2)),kS a3,kI a4,kI a5,.sl 11 (List.map Ja a6) 2]],[44],.ret (.tu [(false,[kI r.1]),(false,[kI r.2])]) [[kS a1,.d (.sl 1 (List.map dI a2)),kS a3,kI a4,kI a5,.sl 11 (List.map Ja a6) 2]] [44]⟩
def Jej:GI→Prop:=Sg7 Jcg Jeq
theorem Jop:∀ g,Jej g→Jn Tryz.prog 50 g:=by
 rintro _ ⟨a0,a1,a2,a3,a4,a5,a6,r,H,rfl⟩
 refine xGn mixed [(70,Jd2),(72,JeE)] [(68,true,Jbs),(73,true,JcG),(74,true,JcF),(75,true,JdC),(76,true,JdG)] [] ⟨⟨JqB,JhH⟩,⟨Jq6,Jil⟩,trivial⟩ ⟨Jj2,JmU,JlG,Jn3,Jol,trivial⟩ trivial Tryz.func50 _ ?_
 have G:=True.intro
 have Y:=xZ y_3 <| xZ y_9 <| xZ y_70 <| xZ y_99 <| xZ Tryz.results50 <| xZ Jm.eq_1 <| xZ Ja.eq_1 <| xZ JT.eq_1 <| xZ Jbu.eq_1 <| xZ Jcu.eq_1 <| xZ JcB.eq_1 <| xZ Jdz.eq_1 <| xZ JdF.eq_1 <| Jeq.eq_1
 dsimp only[Jeq]
 simp only[Jcg]at H
 refine xS ?_
 refine xr ?_
 refine xr ?_
 obtain⟨g,H⟩:=Jc H
 refine xr ?_
 obtain⟨r1,hr1,H⟩:=Jj H
 have F:=xC Y (Jii (a1.getD a5.toNat 0) r1 hr1)
 refine xR ?_
 rcases xB Y G H with⟨p,H,F,G,q⟩|⟨p,H,F,G,q⟩
 ·refine xT ?_
  obtain⟨r2,hr2,H⟩:=Jj H
  have F:=Y
  refine xQ ?_
  refine xs 5 ?_
  refine xc ⟨[1],[2]⟩ (tabG 0 (cg7 hr2)) ?_
  refine xs 2 ?_
  refine xl ?_
  replace H:=oI H
  refine xS ?_
  subst H
  refine xOr ?_
  refine qDf [] ?_
  exact xO ⟨[1],[4]⟩
 refine xE0 ?_
 refine Jo (VB a0 a1 a2 a3 a4 a5 a6) (fun s=>[(0,.c (.pt 1 0)),(1,cB a0),(7,.c (.d (.v (.int .u8 (s.1.toNat:Int))))),(28,cB s.2)]) (fun s=>[[kS a1,.d (.sl 1 (List.map dI a2)),kS a3,kI a4,kI a5,.sl 11 (List.map Ja a6) 2]]) [44] r ?_ ?_
 ·obtain⟨r10,hr10,H⟩:=Jj H
  have F:=xC Y (Jhr (a1.getD a5.toNat 0) r10 hr10)
  rcases xB F G H with⟨p,H,F,G,q⟩|⟨p,H,F,G,q⟩
  ·refine xR ?_
   exact Jb H (xK ⟨[1],[2]⟩)
  rcases xB F G H with⟨p,H,F,G,q⟩|⟨p,H,F,G,q⟩
  ·rcases xB F G H with⟨p,H,F,G,q⟩|⟨p,H,F,G,q⟩
   ·obtain⟨g,H⟩:=Jc H
    obtain⟨r11,hr11,H⟩:=Jj H
    have F:=xCf F (Jhr (a1.getD ((IntKind.i64.wrap (a5+1)).toNat) 0) r11 hr11)
    refine xR ?_
    exact Jb H (xK ⟨[1],[2]⟩)
   refine xR ?_
   exact Jb H (xK ⟨[1],[2]⟩)
  refine xR ?_
  exact Jb H (xK ⟨[1],[2]⟩)
 rintro ⟨x1,x2⟩ H
 rw[VB]at H
 rcases xB Y G H with⟨p,H,F,G,q⟩|⟨p,H,F,G,q⟩
 ·refine xT ?_
  obtain⟨r3,hr3,H⟩:=Jj H
  have F:=Y
  refine xQ ?_
  refine xs 1 ?_
  refine xc ⟨[1],[2]⟩ (tabG 1 (cg6 hr3)) ?_
  refine xs 2 ?_
  refine xl ?_
  replace H:=oI H
  refine xS ?_
  subst H
  refine xOr ?_
  refine qDf [] ?_
  exact xO ⟨[1],[4]⟩
 refine xE ?_
 refine xr ?_
 rcases xB Y G H with⟨p,H,F,G,q⟩|⟨p,H,F,G,q⟩
 ·refine xT ?_
  obtain⟨r4,hr4,H⟩:=Jj H
  have F:=Y
  refine xQ ?_
  refine xs 2 ?_
  refine xc ⟨[1],[2]⟩ (tabG 2 (cg7 hr4)) ?_
  refine xs 2 ?_
  refine xl ?_
  replace H:=oI H
  refine xS ?_
  subst H
  refine xOr ?_
  refine qDf [] ?_
  exact xO ⟨[1],[4]⟩
 refine xE ?_
 refine xr ?_
 rcases xB Y G H with⟨p,H,F,G,q⟩|⟨p,H,F,G,q⟩
 ·refine xT ?_
  obtain⟨r5,hr5,H⟩:=Jj H
  have F:=Y
  refine xQ ?_
  refine xs 2 ?_
  refine xc ⟨[1],[2]⟩ (tabG 2 (cg7 hr5)) ?_
  refine xs 2 ?_
  refine xl ?_
  replace H:=oI H
  refine xS ?_
  subst H
  refine xOr ?_
  refine qDf [] ?_
  exact xO ⟨[1],[4]⟩
 refine xE0 ?_
 refine Jo (Xm a1 a2 a3 a4 a5 a6) (fun s=>[(0,.c (.pt 1 0)),(69,cB s)]) (fun s=>[[kS a1,.d (.sl 1 (List.map dI a2)),kS a3,kI a4,kI a5,.sl 11 (List.map Ja a6) 2]]) [44] r ?_ ?_
 ·rcases xB Y G H with⟨p,H,F,G,q⟩|⟨p,H,F,G,q⟩
  ·rcases xB F G H with⟨p,H,F,G,q⟩|⟨p,H,F,G,q⟩
   ·obtain⟨r9,hr9,H⟩:=Jj H
    have F:=F
    refine xQ ?_
    refine xs 8 ?_
    refine xc ⟨[1],[2]⟩ (tabG 3 (cg6 hr9)) ?_
    refine xs 3 ?_
    refine xl ?_
    refine xS ?_
    exact Jb H (xK ⟨[1],[4]⟩)
   refine xR ?_
   exact Jb H (xK ⟨[1],[2]⟩)
  refine xR ?_
  exact Jb H (xK ⟨[1],[2]⟩)
 rintro x3 H
 rw[Xm]at H
 rcases xB Y G H with⟨p,H,F,G,q⟩|⟨p,H,F,G,q⟩
 ·refine xT ?_
  obtain⟨r6,hr6,H⟩:=Jj H
  have F:=Y
  refine xQ ?_
  refine xs 1 ?_
  refine xc ⟨[1],[2]⟩ (tabG 3 (cg6 hr6)) ?_
  refine xs 2 ?_
  refine xl ?_
  replace H:=oI H
  refine xS ?_
  subst H
  refine xOr ?_
  refine qDf [] ?_
  exact xO ⟨[1],[4]⟩
 refine xE ?_
 obtain⟨r7,hr7,H⟩:=Jj H
 have F:=Y
 refine xQ ?_
 refine xs 1 ?_
 refine xc ⟨[1],[2]⟩ (tabG 4 (cg6 hr7)) ?_
 refine xs 2 ?_
 refine xl ?_
 refine xS ?_
 rcases xB Y G H with⟨p,H,F,G,q⟩|⟨p,H,F,G,q⟩
 ·refine xT ?_
  obtain⟨r8,hr8,H⟩:=Jj H
  have F:=Y
  refine xQ ?_
  refine xs 1 ?_
  refine xc ⟨[1],[4]⟩ (tabG 4 (cg6 hr8)) ?_
  refine xs 2 ?_
  refine xl ?_
  replace H:=oI H
  refine xS ?_
  subst H
  refine xOr ?_
  refine qDf [] ?_
  exact xO ⟨[1],[6]⟩
 refine xE ?_
 replace H:=oI H
 refine xr ?_
 subst H
 refine xOr ?_
 refine qDf [] ?_
 exact xO ⟨[1],[4]⟩
theorem Jo4:Jd Tryz.prog 50∧(∀ g,Jej g→Jn Tryz.prog 50 g)∧(true=true→∀ g,Jej g→∃ val bs ts,g.out=.ret val bs ts) :=
 ⟨JDV,Jop,fun _=>by rintro _ ⟨_,_,_,_,_,_,_,_,_,rfl⟩; exact⟨_,_,_,rfl⟩⟩
noncomputable def JcK(x2 x3:Int):Int→Option (Yb1 ⊕ Int)
 | x4=>some (.inl (x4,x2,IntKind.i64.wrap (x3+1)))
noncomputable def Jcz(a0:List UInt8):Yb1→Option (Yb1 ⊕ Int)
 | (x1,x2,x3)=>if(ltI x3 x2)=true then if(0:Int)≤x3∧x3.toNat<a0.length then if(eqI ((a0.getD x3.toNat 0).toNat:Int) 10)=true then JcK x2 x3 (IntKind.i64.wrap (x1+1)) else JcK x2 x3 x1 else none else inrO (some x1)
noncomputable def Jc9(a0:List UInt8)(a1:Int):Option Int :=
 Jt (Jcz a0) (1,(if(a0.length:Int)<(if 0 > a1 then 0 else a1) then(a0.length:Int) else(if 0 > a1 then 0 else a1)),0)
noncomputable def Jgu:PF:=PF.of (E2 dS dI) (fun a=>Jc9 a.1 a.2) dI
theorem Jo1:JC Tryz.prog 51 Jgu:=by
 refine xF mixed [] [] trivial trivial Tryz.func51 ?_
 rintro ⟨a0,a1⟩ out H
 have G:=True.intro
 have Y:=xZ y_3 <| xZ y_9 <| Tryz.results51
 simp only[Jc9]at H
 refine xS ?_
 refine xr ?_
 refine xr ?_
 refine xr ?_
 refine JK (Jcz a0) (fun s=>[(0,cS a0),(5,cI s.1),(11,cI s.2.1),(12,cI s.2.2)]) (fun s=>[]) [] H (xK ⟨[],[]⟩) ?_
 rintro n1 ⟨x1,x2,x3⟩ o1 H hF1
 rw[Jcz]at H
 refine xS ?_
 refine xr ?_
 rcases xB Y G H with⟨p,H,F,G,q⟩|⟨p,H,F,G,q⟩
 ·refine xT0 ?_
  refine V0 ?_
  refine Jk ?_
  refine Jo (JcK x2 x3) (fun s=>[(0,cS a0),(5,cI s),(11,cI x2),(12,cI x3)]) (fun s=>[]) [] o1 ?_ ?_
  ·refine xS ?_
   refine xr ?_
   obtain⟨g,H⟩:=Jc H
   refine xr ?_
   rcases xB Y G H with⟨p,H,F,G,q⟩|⟨p,H,F,G,q⟩
   ·refine xT ?_
    refine xr ?_
    exact Jb H (xK ⟨[],[]⟩)
   refine xE ?_
   exact Jb H (xK ⟨[],[]⟩)
  rintro x4 H
  rw[JcK]at H
  refine xr ?_
  exact Jw (JA H hF1) (xK ⟨[],[]⟩)
 replace H:=Jq H hF1
 refine xE ?_
 replace H:=oI H
 refine xr ?_
 subst H
 exact xN
theorem Jq3(a0:List UInt8)(a1 r:Int)(H:Jc9 a0 a1=some r):PC Jgu [dS a0,dI a1] (dI r):=PF.c (a:=(a0,a1)) H
noncomputable def Jch(a0:Int)(a1:List UInt8)(r1:Spliced)(x2:List Token)(r2:YI):Bool→Option Yu
 | x3=>(X7 r1 r2.2.2.2).bind fun r4=>(Jcg x3 r1.Text r1.At a1 a0 r2.2.2.2 x2).bind fun r5=>if(ltI r5.2 0)=true then inrO (some (([]:List Token),(⟨9,a0,r4⟩:Fault))) else if(0:Int)≤r2.2.2.2∧r2.2.2.2≤r5.2∧r5.2≤(r1.Text.length:Int) then(X7 r1 (IntKind.i64.wrap (r5.2-1))).bind fun r6=>(Jc9 a1 r4).bind fun r7=>if(x2.length + [(⟨r5.1,List.take (r5.2.toNat-r2.2.2.2.toNat) (List.drop r2.2.2.2.toNat r1.Text),r2.1,x3,a0,r4,IntKind.i64.wrap (r6+1),r7,([]:List (List UInt8)),([]:List Call),0⟩:Token)].length) * 120≤140737488355328 then some (.inl (r5.2,x2++[(⟨r5.1,List.take (r5.2.toNat-r2.2.2.2.toNat) (List.drop r2.2.2.2.toNat r1.Text),r2.1,x3,a0,r4,IntKind.i64.wrap (r6+1),r7,([]:List (List UInt8)),([]:List Call),0⟩:Token)])) else none else none
noncomputable def Jcd(a0:Int)(a1:List UInt8)(r1:Spliced):YQ→Option Yu
 | (x1,x2)=>(Jee r1.Text r1.At a1 a0 x1 x2).bind fun r2=>if(!r2.2.2.1)=true then(X7 r1 r2.2.2.2).bind fun r3=>inrO (some (([]:List Token),(⟨9,a0,r3⟩:Fault))) else if(eqI r2.2.2.2 (r1.Text.length:Int))=true then inrO (some (x2,(⟨0,(-1),0⟩:Fault))) else if(eqI (x2.length:Int) 0)=true then Jch a0 a1 r1 x2 r2 true else Jch a0 a1 r1 x2 r2 r2.2.1
noncomputable def Jfa(a0:Int)(a1:List UInt8):Option ((List Token)×Fault) :=
 if(ltI 3000 (a1.length:Int))=true then some (([]:List Token),(⟨4,a0,0⟩:Fault)) else(Jeb a1).bind fun r1=>Jt (Jcd a0 a1 r1) (0,([]:List Token))
noncomputable def JhK:PF:=PF.of (E2 dI dS) (fun a=>Jfa a.1 a.2) (T2 (dL 11 Ja) J3)
theorem JuL:JC Tryz.prog 32 JhK:=by
 refine xF mixed [(47,Jg9),(49,Jgj),(51,Jgu)] [(48,true,JcS),(50,true,Jej)] ⟨⟨JEE,JqG⟩,⟨JEv,JoJ⟩,⟨JDz,Jo1⟩,trivial⟩ ⟨JnF,Jo4,trivial⟩ Tryz.func32 ?_
 rintro ⟨a0,a1⟩ out H
 have G:=True.intro
 have Y:=xZ y_3 <| xZ y_4 <| xZ y_9 <| xZ y_24 <| xZ y_29 <| xZ y_31 <| xZ y_41 <| xZ y_42 <| xZ y_44 <| xZ y_70 <| xZ y_99 <| xZ Tryz.results32 <| xZ Jm.eq_1 <| xZ Ja.eq_1 <| xZ JT.eq_1 <| xZ J3.eq_1 <| xZ JcY.eq_1 <| Jeq.eq_1
 simp only[Jfa]at H
 refine xS ?_
 refine xr ?_
 refine xr ?_
 rcases xB Y G H with⟨p,H,F,G,q⟩|⟨p,H,F,G,q⟩
 ·refine xT ?_
  replace H:=oI H
  refine xr ?_
  subst H
  exact xN
 refine xE ?_
 obtain⟨r1,hr1,H⟩:=Jj H
 have F:=xC Y (JuE a1 r1 hr1)
 refine xR ?_
 refine JK (Jcd a0 a1 r1) (fun s=>[(0,cI a0),(1,cS a1),(5,.c (.pt 1 0)),(6,.c (.pt 2 0))]) (fun s=>[[kI 0,kI 0,kI 0],[kS r1.Text,.d (.sl 1 (List.map dI r1.At)),kS a1,kI a0,kI s.1,.sl 11 (List.map Ja s.2) 3]]) [44] H (xK ⟨[1,2],[0]⟩) ?_
 rintro n1 ⟨x1,x2⟩ o1 H hF1
 rw[Jcd]at H
 refine xS ?_
 obtain⟨r2,hr2,H⟩:=Jj H
 have F:=Y
 refine xQ ?_
 refine xs 1 ?_
 refine xc ⟨[2],[3]⟩ (tabG 0 (cg6 hr2)) ?_
 refine xs 7 ?_
 refine xl ?_
 refine xS ?_
 refine xr ?_
 rcases xB Y G H with⟨p,H,F,G,q⟩|⟨p,H,F,G,q⟩
 ·refine xT ?_
  obtain⟨r3,hr3,H⟩:=Jj H
  have F:=xC Y (Jhc r1 r2.2.2.2 r3 hr3)
  replace H:=Jq H hF1
  replace H:=oI H
  refine xR ?_
  subst H
  exact xN
 refine xE ?_
 refine xr ?_
 rcases xB Y G H with⟨p,H,F,G,q⟩|⟨p,H,F,G,q⟩
 ·refine xT ?_
  replace H:=Jq H hF1
  replace H:=oI H
  refine xr ?_
  subst H
  exact xN
 refine xE0 ?_
 refine V0 ?_
 refine Jk ?_
 refine Jo (Jch a0 a1 r1 x2 r2) (fun s=>[(0,cI a0),(1,cS a1),(5,.c (.pt 1 0)),(6,.c (.pt 2 0)),(7,cB r2.1),(10,cB s)]) (fun s=>[[kI 0,kI 0,kI 0],[kS r1.Text,.d (.sl 1 (List.map dI r1.At)),kS a1,kI a0,kI r2.2.2.2,.sl 11 (List.map Ja x2) 3]]) [44] o1 ?_ ?_
 ·rcases xB Y G H with⟨p,H,F,G,q⟩|⟨p,H,F,G,q⟩
  ·refine xR ?_
   exact Jb H (xK ⟨[1,2],[5]⟩)
  refine xR ?_
  exact Jb H (xK ⟨[1,2],[5]⟩)
 rintro x3 H
 rw[Jch]at H
 refine xS ?_
 obtain⟨r4,hr4,H⟩:=Jj H
 have F:=xC Y (Jhc r1 r2.2.2.2 r4 hr4)
 refine xR ?_
 obtain⟨r5,hr5,H⟩:=Jj H
 have F:=Y
 refine xQ ?_
 refine xs 2 ?_
 refine xc ⟨[2],[3]⟩ (tabG 1 (cg7 hr5)) ?_
 refine xs 5 ?_
 refine xl ?_
 refine xS ?_
 refine xr ?_
 rcases xB Y G H with⟨p,H,F,G,q⟩|⟨p,H,F,G,q⟩
 ·refine xT ?_
  replace H:=Jq H hF1
  replace H:=oI H
  refine xr ?_
  subst H
  exact xN
 refine xE ?_
 obtain⟨g,H⟩:=Jc H
 obtain⟨r6,hr6,H⟩:=Jj H
 have F:=xC Y (Jhc r1 (IntKind.i64.wrap (r5.2-1)) r6 hr6)
 obtain⟨r7,hr7,H⟩:=Jj H
 have F:=xCf F (Jq3 a1 r4 r7 hr7)
 obtain⟨g,H⟩:=Jc H
 have F:=xZ F (JO KU [(⟨r5.1,List.take (r5.2.toNat-r2.2.2.2.toNat) (List.drop r2.2.2.2.toNat r1.Text),r2.1,x3,a0,r4,IntKind.i64.wrap (r6+1),r7,([]:List (List UInt8)),([]:List Call),0⟩:Token)])
 refine xR ?_
 refine xr ?_
 exact Jw (JA H hF1) (xK ⟨[1,2],[6]⟩)
theorem JvY(a0:Int)(a1:List UInt8)(r:(List Token)×Fault)(H:Jfa a0 a1=some r):PC JhK [dI a0,dS a1] (T2 (dL 11 Ja) J3 r):=PF.c (a:=(a0,a1)) H
end Go.Proofs.YtfkhlbhjhdpkoaaGreatDoor
