/- Functions of data for functions of the program. Written by dec3.py. -/
import Derived.Test.YtfkhlbhjhdpkoaaGreatDoorZral
set_option linter.unusedVariables false
set_option linter.unusedSimpArgs false
set_option maxHeartbeats 4000000
set_option maxRecDepth 100000
namespace Go.Proofs.YtfkhlbhjhdpkoaaGreatDoor
open Go.RowKit
noncomputable def JbA:Bool→Option Int
 | x2=>if x2=true then some 3 else some 0
noncomputable def JbL(a0:List UInt8):Bool→Option Int
 | x1=>if x1=true then some 2 else if(leI 3 (a0.length:Int))=true then if(0:Int)≤0∧0≤3∧3≤(a0.length:Int) then JbA (eqS (List.take 3 a0) [92,13,10]) else none else JbA false
noncomputable def Ja4(a0:List UInt8):Option Int :=
 if(leI 2 (a0.length:Int))=true then if(0:Int)≤0∧0≤2∧2≤(a0.length:Int) then JbL a0 (eqS (List.take 2 a0) [92,10]) else none else JbL a0 false
noncomputable def Jfj:PF:=PF.of (E1 dS) (fun a=>Ja4 a) dI
theorem JnG:JF Tryz.prog 67 Jfj:=by
 refine xF mixed [] [] trivial trivial Tryz.func67 ?_
 rintro a0 out H
 have G:=True.intro
 have Y:=xZ y_9 <| Tryz.results67
 simp only[Ja4]at H
 refine xS ?_
 refine xr0 ?_
 refine Jl ?_
 refine Vl ?_
 refine JaS ?_
 refine Jp (JbL a0) (fun s=>[(0,cS a0),(3,cB s)]) (fun s=>[]) [] out ?_ ?_
 ·rcases xB Y G H with⟨p,H,F,G,q⟩|⟨p,H,F,G,q⟩
  ·obtain⟨g,H⟩:=Jd H
   refine xR ?_
   exact Jb H (xK ⟨[],[]⟩)
  refine xR ?_
  exact Jb H (xK ⟨[],[]⟩)
 rintro x1 H
 rw[JbL]at H
 rcases xB Y G H with⟨p,H,F,G,q⟩|⟨p,H,F,G,q⟩
 ·refine xT ?_
  replace H:=oI H
  refine xr ?_
  subst H
  exact xN
 refine xE0 ?_
 refine Jp JbA (fun s=>[(12,cB s)]) (fun s=>[]) [] out ?_ ?_
 ·rcases xB Y G H with⟨p,H,F,G,q⟩|⟨p,H,F,G,q⟩
  ·obtain⟨g,H⟩:=Jd H
   refine xR ?_
   exact Jb H (xK ⟨[],[]⟩)
  refine xR ?_
  exact Jb H (xK ⟨[],[]⟩)
 rintro x2 H
 rw[JbA]at H
 rcases xB Y G H with⟨p,H,F,G,q⟩|⟨p,H,F,G,q⟩
 ·refine xT ?_
  replace H:=oI H
  refine xr ?_
  subst H
  exact xN
 refine xE ?_
 replace H:=oI H
 refine xr ?_
 subst H
 exact xN
theorem Jie(a0:List UInt8)(r:Int)(H:Ja4 a0=some r):PC Jfj [dS a0] (dI r):=PF.c (a:=a0) H
noncomputable def JaQ(a0 x1:List UInt8)(x2:List Int)(x3:Int)(x4:List UInt8):Bool→Option Ym
 | x5=>if x5=true then some (.inl (x1,x2,IntKind.i64.wrap (x3+1),x4)) else if(0:Int)≤x3∧x3.toNat<a0.length then if(x1.length + [(a0.getD x3.toNat 0)].length) * 1≤140737488355328 then if(x2.length + [x3].length) * 8≤140737488355328 then some (.inl (x1++[(a0.getD x3.toNat 0)],x2++[x3],IntKind.i64.wrap (x3+1),x4)) else none else none else none
noncomputable def Jcr(a0:List UInt8):((List UInt8)×(List Int)×Int×(List UInt8))→Option Ym
 | (x1,x2,x3,x4)=>if(ltI x3 (a0.length:Int))=true then if(0:Int)≤x3∧x3≤(a0.length:Int)∧(a0.length:Int)≤(a0.length:Int) then(Ja4 (List.drop x3.toNat a0)).bind fun r1=>if(ltI 0 r1)=true then if(0:Int)≤x3∧x3≤(a0.length:Int)∧(a0.length:Int)≤(a0.length:Int) then(Ja4 (List.drop x3.toNat a0)).bind fun r2=>some (.inl (x1,x2,IntKind.i64.wrap (x3+r2),x4)) else none else if(0:Int)≤x3∧x3.toNat<a0.length then if(eqI ((a0.getD x3.toNat 0).toNat:Int) 13)=true then if(ltI (IntKind.i64.wrap (x3+1)) (a0.length:Int))=true then if(0:Int)≤(IntKind.i64.wrap (x3+1))∧(IntKind.i64.wrap (x3+1)).toNat<a0.length then JaQ a0 x1 x2 x3 x4 (eqI ((a0.getD ((IntKind.i64.wrap (x3+1)).toNat) 0).toNat:Int) 10) else none else JaQ a0 x1 x2 x3 x4 false else JaQ a0 x1 x2 x3 x4 false else none else none else inrO (if(x2.length + [(a0.length:Int)].length) * 8≤140737488355328 then some (⟨x1,x2++[(a0.length:Int)]⟩:Spliced) else none)
noncomputable def Jc9(a0:List UInt8):Option Spliced :=
 Jt (Jcr a0) (([]:List UInt8),([]:List Int),0,[])
noncomputable def Jf1:PF:=PF.of (E1 dS) (fun a=>Jc9 a) J6
theorem Jor:JF Tryz.prog 47 Jf1:=by
 refine xF mixed [(67,Jfj)] [] ⟨⟨JBg,JnG⟩,trivial⟩ trivial Tryz.func47 ?_
 rintro a0 out H
 have G:=True.intro
 have Y:=xZ y_3 <| xZ y_5 <| xZ y_9 <| xZ y_25 <| xZ y_55 <| xZ y_70 <| xZ Tryz.results47 <| J6.eq_1
 simp only[Jc9]at H
 refine xS ?_
 refine xr ?_
 refine xr ?_
 refine xr ?_
 refine xr ?_
 refine JZ (Jcr a0) (fun s=>[(0,cS a0),(2,.c (.pt 1 0)),(3,.c (.sl 1 (List.map dU s.1) 2)),(4,.c (.sl 1 (List.map dI s.2.1) 3)),(5,cI s.2.2.1)]) (fun s=>[[kS s.2.2.2,.sl 1 [] 0]]) [5,3] H (xK ⟨[1],[0,0]⟩) ?_
 rintro n1 ⟨x1,x2,x3,x4⟩ o1 H hF1
 rw[Jcr]at H
 refine xS ?_
 refine xr ?_
 rcases xB Y G H with⟨p,H,F,G,q⟩|⟨p,H,F,G,q⟩
 ·refine xT ?_
  obtain⟨g,H⟩:=Jd H
  obtain⟨r1,hr1,H⟩:=Ji H
  have F:=xC Y (Jie (List.drop x3.toNat a0) r1 hr1)
  refine xR ?_
  rcases xB Y G H with⟨p,H,F,G,q⟩|⟨p,H,F,G,q⟩
  ·refine xT ?_
   obtain⟨g,H⟩:=Jd H
   obtain⟨r2,hr2,H⟩:=Ji H
   have F:=xC Y (Jie (List.drop x3.toNat a0) r2 hr2)
   refine xR ?_
   exact JB (JG H hF1) (xK ⟨[1],[2,3]⟩)
  refine xE0 ?_
  refine Jp (JaQ a0 x1 x2 x3 x4) (fun s=>[(0,cS a0),(2,.c (.pt 1 0)),(3,.c (.sl 1 (List.map dU x1) 2)),(4,.c (.sl 1 (List.map dI x2) 3)),(5,cI x3),(22,cB s)]) (fun s=>[[kS x4,.sl 1 [] 0]]) [5,3] o1 ?_ ?_
  ·obtain⟨g,H⟩:=Jd H
   rcases xB Y G H with⟨p,H,F,G,q⟩|⟨p,H,F,G,q⟩
   ·rcases xB F G H with⟨p,H,F,G,q⟩|⟨p,H,F,G,q⟩
    ·obtain⟨g,H⟩:=Jd H
     refine xR ?_
     exact Jb H (xK ⟨[1],[2,3]⟩)
    refine xR ?_
    exact Jb H (xK ⟨[1],[2,3]⟩)
   refine xR ?_
   exact Jb H (xK ⟨[1],[2,3]⟩)
  rintro x5 H
  rw[JaQ]at H
  rcases xB Y G H with⟨p,H,F,G,q⟩|⟨p,H,F,G,q⟩
  ·refine xT ?_
   refine xr ?_
   exact JB (JG H hF1) (xK ⟨[1],[2,3]⟩)
  refine xE ?_
  obtain⟨g,H⟩:=Jd H
  obtain⟨g,H⟩:=Jd H
  have F:=xZ Y (JQ JCm [(a0.getD x3.toNat 0)])
  obtain⟨g,H⟩:=Jd H
  have F:=xZ F (JQ Jno [x3])
  refine xR ?_
  refine xr ?_
  exact JB (JG H hF1) (xK ⟨[1],[4,5]⟩)
 replace H:=Js H hF1
 refine xE ?_
 obtain⟨g,H⟩:=Jd H
 have F:=xZ Y (JQ Jno [(a0.length:Int)])
 replace H:=oI H
 refine xR ?_
 subst H
 exact xN
theorem JsC(a0:List UInt8)(r:Spliced)(H:Jc9 a0=some r):PC Jf1 [dS a0] (J6 r):=PF.c (a:=a0) H
noncomputable def Jag(a0:UInt8):Option Bool :=
 some (!eqI (a0.toNat:Int) 10)
noncomputable def JcH:PF:=PF.of (E1 dU) (fun a=>Jag a) dB
theorem Jje:JF Tryz.prog 69 JcH:=by
 refine xF mixed [] [] trivial trivial Tryz.func69 ?_
 rintro a0 out H
 have G:=True.intro
 have Y:=Tryz.results69
 simp only[Jag]at H
 refine xS ?_
 refine xr ?_
 replace H:=oI H
 refine xr ?_
 subst H
 exact xN
theorem JjX(a0:UInt8)(r:Bool)(H:Jag a0=some r):PC JcH [dU a0] (dB r):=PF.c (a:=a0) H
noncomputable def ZK(x1:Int):Bool→Option (Int ⊕ Int)
 | x2=>if x2=true then some (.inl (IntKind.i64.wrap (x1+1))) else inrO (some x1)
noncomputable def JbK(a1:List UInt8):Int→Option (Int ⊕ Int)
 | x1=>if(ltI x1 (a1.length:Int))=true then if(0:Int)≤x1∧x1.toNat<a1.length then(Jag (a1.getD x1.toNat 0)).bind fun r1=>ZK x1 r1 else none else ZK x1 false
noncomputable def Jbv(a0:Int)(a1:List UInt8)(a2:List Int)(a3:List UInt8)(a4 a5:Int)(a6:List Token):Option Int :=
 Jt (JbK a1) a0
def Jca(a0:Int)(a1:List UInt8)(a2:List Int)(a3:List UInt8)(a4 a5:Int)(a6:List Token)(r:Int):GI :=
 ⟨[.c (.pt 1 0),cI a0,.c (.d (.v (.func (.func 69) #[] #[])))],[[kS a1,.d (.sl 1 (List.map dI a2)),kS a3,kI a4,kI a5,.sl 11 (List.map Ja a6) 2]],[44],.ret (cI r) [[kS a1,.d (.sl 1 (List.map dI a2)),kS a3,kI a4,kI a5,.sl 11 (List.map Ja a6) 2]] [44]⟩
def Jb7:GI→Prop:=Sg7 Jbv Jca
theorem Jj7:∀ g,Jb7 g→Jm Tryz.prog 68 g:=by
 rintro _ ⟨a0,a1,a2,a3,a4,a5,a6,r,H,rfl⟩
 refine xGn mixed [(69,JcH)] [] [] ⟨⟨JB5,Jje⟩,trivial⟩ trivial trivial Tryz.func68 _ ?_
 have G:=True.intro
 have Y:=xZ y_9 <| xZ y_70 <| xZ y_99 <| xZ Tryz.results68 <| xZ Jk.eq_1 <| xZ Ja.eq_1 <| xZ J6.eq_1 <| Jca.eq_1
 dsimp only[Jca]
 simp only[Jbv]at H
 refine xS ?_
 refine xr ?_
 refine JZ (JbK a1) (fun s=>[(0,.c (.pt 1 0)),(1,cI s),(2,.c (.d (.v (.func (.func 69) #[] #[]))))]) (fun s=>[[kS a1,.d (.sl 1 (List.map dI a2)),kS a3,kI a4,kI a5,.sl 11 (List.map Ja a6) 2]]) [44] H (xK ⟨[1],[2]⟩) ?_
 rintro n1 x1 o1 H hF1
 rw[JbK]at H
 refine Vl ?_
 refine Jp (ZK x1) (fun s=>[(0,.c (.pt 1 0)),(1,cI x1),(2,.c (.d (.v (.func (.func 69) #[] #[])))),(25,cB s)]) (fun s=>[[kS a1,.d (.sl 1 (List.map dI a2)),kS a3,kI a4,kI a5,.sl 11 (List.map Ja a6) 2]]) [44] o1 ?_ ?_
 ·rcases xB Y G H with⟨p,H,F,G,q⟩|⟨p,H,F,G,q⟩
  ·obtain⟨g,H⟩:=Jd H
   obtain⟨r1,hr1,H⟩:=Ji H
   have F:=xCf F (JjX (a1.getD x1.toNat 0) r1 hr1)
   refine xR ?_
   exact Jb H (xK ⟨[1],[2]⟩)
  refine xR ?_
  exact Jb H (xK ⟨[1],[2]⟩)
 rintro x2 H
 rw[ZK]at H
 rcases xB Y G H with⟨p,H,F,G,q⟩|⟨p,H,F,G,q⟩
 ·refine xT ?_
  refine xr ?_
  exact JB (JG H hF1) (xK ⟨[1],[2]⟩)
 replace H:=Js H hF1
 refine xE ?_
 replace H:=oI H
 refine xr ?_
 subst H
 refine xOr ?_
 refine qDf [] ?_
 exact xO ⟨[1],[2]⟩
theorem JlS:Jc Tryz.prog 68∧(∀ g,Jb7 g→Jm Tryz.prog 68 g)∧(true=true→∀ g,Jb7 g→∃ val bs ts,g.out=.ret val bs ts) :=
 ⟨Jon,Jj7,fun _=>by rintro _ ⟨_,_,_,_,_,_,_,_,_,rfl⟩; exact⟨_,_,_,rfl⟩⟩
noncomputable def Vw:(Bool×Int)→Option Yp
 | (x4,x5)=>some (.inl (true,x4,x5))
noncomputable def ZF(x3:Int):Bool→Option Yp
 | x8=>Vw (x8,IntKind.i64.wrap (x3+1))
noncomputable def ZM(a0:List UInt8)(x1 x2:Bool)(x3 x12:Int):Bool→Option Yo
 | x13=>if x13=true then some (.inl (IntKind.i64.wrap (x12+1))) else inrO (if(leI (a0.length:Int) (IntKind.i64.wrap (x12+1)))=true then inrO (some (x1,x2,false,x3)) else Vw (x2,IntKind.i64.wrap (x12+2)))
noncomputable def Zv(a0:List UInt8)(x1 x2:Bool)(x3:Int):Int→Option Yo
 | x12=>if(ltI (IntKind.i64.wrap (x12+1)) (a0.length:Int))=true then if(0:Int)≤x12∧x12≤(IntKind.i64.wrap (x12+2))∧(IntKind.i64.wrap (x12+2))≤(a0.length:Int) then ZM a0 x1 x2 x3 x12 (!eqS (List.take ((IntKind.i64.wrap (x12+2)).toNat-x12.toNat) (List.drop x12.toNat a0)) [42,47]) else none else ZM a0 x1 x2 x3 x12 false
noncomputable def V8(a0:List UInt8)(x1 x2:Bool)(x3:Int):Bool→Option Yp
 | x11=>if x11=true then Jt (Zv a0 x1 x2 x3) (IntKind.i64.wrap (x3+2)) else inrO (some (x1,x2,true,x3))
noncomputable def Xd(a0:List UInt8)(a1:List Int)(a2:List UInt8)(a3:Int)(a5:List Token)(x1 x2:Bool)(x3:Int):YT→Option Yp
 | (x9,x10)=>if x10=true then(Jbv x3 a0 a1 a2 a3 x3 a5).bind fun r1=>Vw (x2,r1) else if(eqI (x9.toNat:Int) 47)=true then if(ltI (IntKind.i64.wrap (x3+1)) (a0.length:Int))=true then if(0:Int)≤(IntKind.i64.wrap (x3+1))∧(IntKind.i64.wrap (x3+1)).toNat<a0.length then V8 a0 x1 x2 x3 (eqI ((a0.getD ((IntKind.i64.wrap (x3+1)).toNat) 0).toNat:Int) 42) else none else V8 a0 x1 x2 x3 false else V8 a0 x1 x2 x3 false
noncomputable def KT(a0:List UInt8)(a1:List Int)(a2:List UInt8)(a3:Int)(a5:List Token)(x1 x2:Bool)(x3:Int):YT→Option Yp
 | (x6,x7)=>if x7=true then if x2=true then ZF x3 true else ZF x3 (eqI (x6.toNat:Int) 10) else if(eqI (x6.toNat:Int) 47)=true then if(ltI (IntKind.i64.wrap (x3+1)) (a0.length:Int))=true then if(0:Int)≤(IntKind.i64.wrap (x3+1))∧(IntKind.i64.wrap (x3+1)).toNat<a0.length then Xd a0 a1 a2 a3 a5 x1 x2 x3 (x6,eqI ((a0.getD ((IntKind.i64.wrap (x3+1)).toNat) 0).toNat:Int) 47) else none else Xd a0 a1 a2 a3 a5 x1 x2 x3 (x6,false) else Xd a0 a1 a2 a3 a5 x1 x2 x3 (x6,false)
noncomputable def KQ(a0:List UInt8)(a1:List Int)(a2:List UInt8)(a3:Int)(a5:List Token):(Bool×Bool×Int)→Option Yp
 | (x1,x2,x3)=>if(ltI x3 (a0.length:Int))=true then if(0:Int)≤x3∧x3.toNat<a0.length then if(eqI ((a0.getD x3.toNat 0).toNat:Int) 32)=true then KT a0 a1 a2 a3 a5 x1 x2 x3 ((a0.getD x3.toNat 0),true) else if(eqI ((a0.getD x3.toNat 0).toNat:Int) 9)=true then KT a0 a1 a2 a3 a5 x1 x2 x3 ((a0.getD x3.toNat 0),true) else if(eqI ((a0.getD x3.toNat 0).toNat:Int) 10)=true then KT a0 a1 a2 a3 a5 x1 x2 x3 ((a0.getD x3.toNat 0),true) else KT a0 a1 a2 a3 a5 x1 x2 x3 ((a0.getD x3.toNat 0),eqI ((a0.getD x3.toNat 0).toNat:Int) 13) else none else inrO (some (x1,x2,true,x3))
noncomputable def Jdm(a0:List UInt8)(a1:List Int)(a2:List UInt8)(a3 a4:Int)(a5:List Token):Option YC :=
 Jt (KQ a0 a1 a2 a3 a5) (false,false,a4)
def Jb4(a0:List UInt8)(a1:List Int)(a2:List UInt8)(a3 a4:Int)(a5:List Token)(r:YC):GI :=
 ⟨[.c (.pt 1 0)],[[kS a0,.d (.sl 1 (List.map dI a1)),kS a2,kI a3,kI a4,.sl 11 (List.map Ja a5) 2]],[44],.ret (.tu [(false,[kB r.1]),(false,[kB r.2.1]),(false,[kB r.2.2.1])]) [[kS a0,.d (.sl 1 (List.map dI a1)),kS a2,kI a3,kI r.2.2.2,.sl 11 (List.map Ja a5) 2]] [44]⟩
def Jb3:GI→Prop:=Sg6 Jdm Jb4
theorem Jkn:∀ g,Jb3 g→Jm Tryz.prog 48 g:=by
 rintro _ ⟨a0,a1,a2,a3,a4,a5,r,H,rfl⟩
 refine xGn mixed [] [(68,true,Jb7)] [] trivial ⟨JlS,trivial⟩ trivial Tryz.func48 _ ?_
 have G:=True.intro
 have Y:=xZ y_3 <| xZ y_9 <| xZ y_70 <| xZ y_99 <| xZ Tryz.results48 <| xZ Jk.eq_1 <| xZ Ja.eq_1 <| xZ J6.eq_1 <| xZ Jca.eq_1 <| Jb4.eq_1
 dsimp only[Jb4]
 simp only[Jdm]at H
 refine xS ?_
 refine xr ?_
 refine xr ?_
 refine JZ (KQ a0 a1 a2 a3 a5) (fun s=>[(0,.c (.pt 1 0)),(2,cB s.1),(3,cB s.2.1),(5,cS a0)]) (fun s=>[[kS a0,.d (.sl 1 (List.map dI a1)),kS a2,kI a3,kI s.2.2,.sl 11 (List.map Ja a5) 2]]) [44] H (xK ⟨[1],[2]⟩) ?_
 rintro n1 ⟨x1,x2,x3⟩ o1 H hF1
 rw[KQ]at H
 refine xS ?_
 refine xr ?_
 rcases xB Y G H with⟨p,H,F,G,q⟩|⟨p,H,F,G,q⟩
 ·refine xT0 ?_
  refine Jbd ?_
  refine Jl ?_
  refine JaS ?_
  refine Jp Vw (fun s=>[(0,.c (.pt 1 0)),(3,cB s.1),(5,cS a0)]) (fun s=>[[kS a0,.d (.sl 1 (List.map dI a1)),kS a2,kI a3,kI s.2,.sl 11 (List.map Ja a5) 2]]) [44] o1 ?_ ?_
  ·refine xS ?_
   obtain⟨g,H⟩:=Jd H
   refine xr0 ?_
   refine Jl ?_
   refine JaS ?_
   refine Jp (KT a0 a1 a2 a3 a5 x1 x2 x3) (fun s=>[(0,.c (.pt 1 0)),(2,cB x1),(3,cB x2),(5,cS a0),(6,.c (.d (.v (.int .u8 (s.1.toNat:Int))))),(28,cB s.2)]) (fun s=>[[kS a0,.d (.sl 1 (List.map dI a1)),kS a2,kI a3,kI x3,.sl 11 (List.map Ja a5) 2]]) [44] o1 ?_ ?_
   ·rcases xB Y G H with⟨p,H,F,G,q⟩|⟨p,H,F,G,q⟩
    ·refine xR ?_
     exact Jb H (xK ⟨[1],[2]⟩)
    rcases xB F G H with⟨p,H,F,G,q⟩|⟨p,H,F,G,q⟩
    ·refine xR ?_
     exact Jb H (xK ⟨[1],[2]⟩)
    rcases xB F G H with⟨p,H,F,G,q⟩|⟨p,H,F,G,q⟩
    ·refine xR ?_
     exact Jb H (xK ⟨[1],[2]⟩)
    refine xR ?_
    exact Jb H (xK ⟨[1],[2]⟩)
   rintro ⟨x6,x7⟩ H
   rw[KT]at H
   rcases xB Y G H with⟨p,H,F,G,q⟩|⟨p,H,F,G,q⟩
   ·refine xT0 ?_
    refine Jp (ZF x3) (fun s=>[(0,.c (.pt 1 0)),(3,cB s),(5,cS a0)]) (fun s=>[[kS a0,.d (.sl 1 (List.map dI a1)),kS a2,kI a3,kI x3,.sl 11 (List.map Ja a5) 2]]) [44] o1 ?_ ?_
    ·rcases xB Y G H with⟨p,H,F,G,q⟩|⟨p,H,F,G,q⟩
     ·refine xR ?_
      exact Jb H (xK ⟨[1],[2]⟩)
     refine xR ?_
     exact Jb H (xK ⟨[1],[2]⟩)
    rintro x8 H
    rw[ZF]at H
    refine xr ?_
    exact Jb H (xK ⟨[1],[2]⟩)
   refine xE0 ?_
   refine Jp (Xd a0 a1 a2 a3 a5 x1 x2 x3) (fun s=>[(0,.c (.pt 1 0)),(2,cB x1),(3,cB x2),(5,cS a0),(6,.c (.d (.v (.int .u8 (s.1.toNat:Int))))),(55,cB s.2)]) (fun s=>[[kS a0,.d (.sl 1 (List.map dI a1)),kS a2,kI a3,kI x3,.sl 11 (List.map Ja a5) 2]]) [44] o1 ?_ ?_
   ·rcases xB Y G H with⟨p,H,F,G,q⟩|⟨p,H,F,G,q⟩
    ·rcases xB F G H with⟨p,H,F,G,q⟩|⟨p,H,F,G,q⟩
     ·obtain⟨g,H⟩:=Jd H
      refine xR ?_
      exact Jb H (xK ⟨[1],[2]⟩)
     refine xR ?_
     exact Jb H (xK ⟨[1],[2]⟩)
    refine xR ?_
    exact Jb H (xK ⟨[1],[2]⟩)
   rintro ⟨x9,x10⟩ H
   rw[Xd]at H
   rcases xB Y G H with⟨p,H,F,G,q⟩|⟨p,H,F,G,q⟩
   ·refine xT ?_
    obtain⟨r1,hr1,H⟩:=Ji H
    have F:=Y
    refine xQ ?_
    refine xs 6 ?_
    refine xc ⟨[1],[2]⟩ (tabG 0 (cg7 hr1)) ?_
    refine xs 3 ?_
    refine xl ?_
    refine xS ?_
    exact Jb H (xK ⟨[1],[4]⟩)
   refine xE0 ?_
   refine Jp (V8 a0 x1 x2 x3) (fun s=>[(0,.c (.pt 1 0)),(2,cB x1),(3,cB x2),(5,cS a0),(87,cB s)]) (fun s=>[[kS a0,.d (.sl 1 (List.map dI a1)),kS a2,kI a3,kI x3,.sl 11 (List.map Ja a5) 2]]) [44] o1 ?_ ?_
   ·rcases xB Y G H with⟨p,H,F,G,q⟩|⟨p,H,F,G,q⟩
    ·rcases xB F G H with⟨p,H,F,G,q⟩|⟨p,H,F,G,q⟩
     ·obtain⟨g,H⟩:=Jd H
      refine xR ?_
      exact Jb H (xK ⟨[1],[2]⟩)
     refine xR ?_
     exact Jb H (xK ⟨[1],[2]⟩)
    refine xR ?_
    exact Jb H (xK ⟨[1],[2]⟩)
   rintro x11 H
   rw[V8]at H
   rcases xB Y G H with⟨p,H,F,G,q⟩|⟨p,H,F,G,q⟩
   ·refine xT ?_
    refine xr ?_
    refine JZ (Zv a0 x1 x2 x3) (fun s=>[(0,.c (.pt 1 0)),(2,cB x1),(3,cB x2),(5,cS a0),(7,cI s)]) (fun s=>[[kS a0,.d (.sl 1 (List.map dI a1)),kS a2,kI a3,kI x3,.sl 11 (List.map Ja a5) 2]]) [44] H (xK ⟨[1],[2]⟩) ?_
    rintro n2 x12 o2 H hF2
    rw[Zv]at H
    refine Vl ?_
    refine Jp (ZM a0 x1 x2 x3 x12) (fun s=>[(0,.c (.pt 1 0)),(2,cB x1),(3,cB x2),(5,cS a0),(7,cI x12),(127,cB s)]) (fun s=>[[kS a0,.d (.sl 1 (List.map dI a1)),kS a2,kI a3,kI x3,.sl 11 (List.map Ja a5) 2]]) [44] o2 ?_ ?_
    ·rcases xB Y G H with⟨p,H,F,G,q⟩|⟨p,H,F,G,q⟩
     ·obtain⟨g,H⟩:=Jd H
      refine xR ?_
      exact Jb H (xK ⟨[1],[2]⟩)
     refine xR ?_
     exact Jb H (xK ⟨[1],[2]⟩)
    rintro x13 H
    rw[ZM]at H
    rcases xB Y G H with⟨p,H,F,G,q⟩|⟨p,H,F,G,q⟩
    ·refine xT ?_
     refine xr ?_
     exact JB (JG H hF2) (xK ⟨[1],[2]⟩)
    replace H:=Js H hF2
    refine xE ?_
    refine xr ?_
    rcases xB Y G H with⟨p,H,F,G,q⟩|⟨p,H,F,G,q⟩
    ·refine xT ?_
     replace H:=Js H hF1
     replace H:=oI H
     refine xr ?_
     subst H
     refine xOr ?_
     refine qDf [] ?_
     exact xO ⟨[1],[2]⟩
    refine xE ?_
    refine xr ?_
    exact Jb H (xK ⟨[1],[2]⟩)
   refine xE ?_
   replace H:=Js H hF1
   replace H:=oI H
   refine xr ?_
   subst H
   refine xOr ?_
   refine qDf [] ?_
   exact xO ⟨[1],[2]⟩
  rintro ⟨x4,x5⟩ H
  rw[Vw]at H
  refine xr ?_
  exact JB (JG H hF1) (xK ⟨[1],[2]⟩)
 replace H:=Js H hF1
 refine xE ?_
 replace H:=oI H
 refine xr ?_
 subst H
 refine xOr ?_
 refine qDf [] ?_
 exact xO ⟨[1],[2]⟩
theorem JlO:Jc Tryz.prog 48∧(∀ g,Jb3 g→Jm Tryz.prog 48 g)∧(true=true→∀ g,Jb3 g→∃ val bs ts,g.out=.ret val bs ts) :=
 ⟨JBQ,Jkn,fun _=>by rintro _ ⟨_,_,_,_,_,_,_,_,rfl⟩; exact⟨_,_,_,rfl⟩⟩
noncomputable def JbE(a0:Spliced)(a1:Int):Bool→Option Int
 | x1=>if x1=true then some (-1) else if(0:Int)≤a1∧a1.toNat<a0.At.length then some (a0.At.getD a1.toNat default) else none
noncomputable def Xt(a0:Spliced)(a1:Int):Option Int :=
 if(ltI a1 0)=true then JbE a0 a1 true else JbE a0 a1 (leI (a0.At.length:Int) a1)
noncomputable def JfK:PF:=PF.of (E2 J6 dI) (fun a=>Xt a.1 a.2) dI
theorem Jm4:JF Tryz.prog 49 JfK:=by
 refine xF mixed [] [] trivial trivial Tryz.func49 ?_
 rintro ⟨a0,a1⟩ out H
 have G:=True.intro
 have Y:=xZ y_3 <| xZ y_25 <| xZ y_70 <| xZ Tryz.results49 <| J6.eq_1
 simp only[Xt]at H
 refine xS ?_
 refine xr0 ?_
 refine Jl ?_
 refine Vl ?_
 refine Jp (JbE a0 a1) (fun s=>[(1,cI a1),(2,.c (.pt 1 0)),(13,cB s)]) (fun s=>[[kS a0.Text,.d (.sl 1 (List.map dI a0.At))]]) [] out ?_ ?_
 ·rcases xB Y G H with⟨p,H,F,G,q⟩|⟨p,H,F,G,q⟩
  ·refine xR ?_
   exact Jb H (xK ⟨[1],[]⟩)
  refine xR ?_
  exact Jb H (xK ⟨[1],[]⟩)
 rintro x1 H
 rw[JbE]at H
 rcases xB Y G H with⟨p,H,F,G,q⟩|⟨p,H,F,G,q⟩
 ·refine xT ?_
  replace H:=oI H
  refine xr ?_
  subst H
  exact xN
 refine xE ?_
 obtain⟨g,H⟩:=Jd H
 have F:=xZ Y (Jh dI a0.At a1.toNat default default (by omega))
 replace H:=oI H
 refine xR ?_
 subst H
 exact xN
theorem JfW(a0:Spliced)(a1 r:Int)(H:Xt a0 a1=some r):PC JfK [J6 a0,dI a1] (dI r):=PF.c (a:=(a0,a1)) H
noncomputable def Vx:Bool→Option Bool
 | x1=>some x1
noncomputable def Jbw(a0:UInt8):Option Bool :=
 if(leI 97 (a0.toNat:Int))=true then if(leI (a0.toNat:Int) 122)=true then Vx true else if(leI 65 (a0.toNat:Int))=true then if(leI (a0.toNat:Int) 90)=true then Vx true else Vx (eqI (a0.toNat:Int) 95) else Vx (eqI (a0.toNat:Int) 95) else if(leI 65 (a0.toNat:Int))=true then if(leI (a0.toNat:Int) 90)=true then Vx true else Vx (eqI (a0.toNat:Int) 95) else Vx (eqI (a0.toNat:Int) 95)
noncomputable def JcV:PF:=PF.of (E1 dU) (fun a=>Jbw a) dB
theorem JgB:JF Tryz.prog 70 JcV:=by
 refine xF mixed [] [] trivial trivial Tryz.func70 ?_
 rintro a0 out H
 have G:=True.intro
 have Y:=Tryz.results70
 simp only[Jbw]at H
 refine xS ?_
 refine xr0 ?_
 refine Jl ?_
 refine Jp Vx (fun s=>[(2,cB s)]) (fun s=>[]) [] out ?_ ?_
 ·rcases xB Y G H with⟨p,H,F,G,q⟩|⟨p,H,F,G,q⟩
  ·rcases xB F G H with⟨p,H,F,G,q⟩|⟨p,H,F,G,q⟩
   ·refine xR ?_
    exact Jb H (xK ⟨[],[]⟩)
   rcases xB F G H with⟨p,H,F,G,q⟩|⟨p,H,F,G,q⟩
   ·rcases xB F G H with⟨p,H,F,G,q⟩|⟨p,H,F,G,q⟩
    ·refine xR ?_
     exact Jb H (xK ⟨[],[]⟩)
    refine xR ?_
    exact Jb H (xK ⟨[],[]⟩)
   refine xR ?_
   exact Jb H (xK ⟨[],[]⟩)
  rcases xB F G H with⟨p,H,F,G,q⟩|⟨p,H,F,G,q⟩
  ·rcases xB F G H with⟨p,H,F,G,q⟩|⟨p,H,F,G,q⟩
   ·refine xR ?_
    exact Jb H (xK ⟨[],[]⟩)
   refine xR ?_
   exact Jb H (xK ⟨[],[]⟩)
  refine xR ?_
  exact Jb H (xK ⟨[],[]⟩)
 rintro x1 H
 rw[Vx]at H
 replace H:=oI H
 refine xS ?_
 subst H
 exact xN
theorem Jhu(a0:UInt8)(r:Bool)(H:Jbw a0=some r):PC JcV [dU a0] (dB r):=PF.c (a:=a0) H
noncomputable def JdH:Bool→Option Bool
 | x1=>some x1
noncomputable def JbC(a0:UInt8):Option Bool :=
 if(leI 48 (a0.toNat:Int))=true then JdH (leI (a0.toNat:Int) 57) else JdH false
noncomputable def JdI:PF:=PF.of (E1 dU) (fun a=>JbC a) dB
theorem Jha:JF Tryz.prog 72 JdI:=by
 refine xF mixed [] [] trivial trivial Tryz.func72 ?_
 rintro a0 out H
 have G:=True.intro
 have Y:=Tryz.results72
 simp only[JbC]at H
 refine xS ?_
 refine xr0 ?_
 refine Jl ?_
 refine Jp JdH (fun s=>[(2,cB s)]) (fun s=>[]) [] out ?_ ?_
 ·rcases xB Y G H with⟨p,H,F,G,q⟩|⟨p,H,F,G,q⟩
  ·refine xR ?_
   exact Jb H (xK ⟨[],[]⟩)
  refine xR ?_
  exact Jb H (xK ⟨[],[]⟩)
 rintro x1 H
 rw[JdH]at H
 replace H:=oI H
 refine xS ?_
 subst H
 exact xN
theorem Jgg(a0:UInt8)(r:Bool)(H:JbC a0=some r):PC JdI [dU a0] (dB r):=PF.c (a:=a0) H
noncomputable def ZL:Bool→Option Bool
 | x1=>some x1
noncomputable def Z7(a0:UInt8):Option Bool :=
 (Jbw a0).bind fun r1=>if r1=true then ZL true else(JbC a0).bind fun r2=>ZL r2
noncomputable def Jdw:PF:=PF.of (E1 dU) (fun a=>Z7 a) dB
theorem Jlh:JF Tryz.prog 71 Jdw:=by
 refine xF mixed [(70,JcV),(72,JdI)] [] ⟨⟨JoE,JgB⟩,⟨Jou,Jha⟩,trivial⟩ trivial Tryz.func71 ?_
 rintro a0 out H
 have G:=True.intro
 have Y:=Tryz.results71
 simp only[Z7]at H
 refine xS ?_
 refine xr0 ?_
 refine Jl ?_
 refine Jp ZL (fun s=>[(2,cB s)]) (fun s=>[]) [] out ?_ ?_
 ·obtain⟨r1,hr1,H⟩:=Ji H
  have F:=xC Y (Jhu a0 r1 hr1)
  rcases xB F G H with⟨p,H,F,G,q⟩|⟨p,H,F,G,q⟩
  ·refine xR ?_
   exact Jb H (xK ⟨[],[]⟩)
  obtain⟨r2,hr2,H⟩:=Ji H
  have F:=xCf F (Jgg a0 r2 hr2)
  refine xR ?_
  exact Jb H (xK ⟨[],[]⟩)
 rintro x1 H
 rw[ZL]at H
 replace H:=oI H
 refine xS ?_
 subst H
 exact xN
theorem JlR(a0:UInt8)(r:Bool)(H:Z7 a0=some r):PC Jdw [dU a0] (dB r):=PF.c (a:=a0) H
noncomputable def V6(x1:Int):Bool→Option (Int ⊕ Int)
 | x2=>if x2=true then some (.inl (IntKind.i64.wrap (x1+1))) else inrO (some x1)
noncomputable def ZW(a1:List UInt8):Int→Option (Int ⊕ Int)
 | x1=>if(ltI x1 (a1.length:Int))=true then if(0:Int)≤x1∧x1.toNat<a1.length then(Z7 (a1.getD x1.toNat 0)).bind fun r1=>V6 x1 r1 else none else V6 x1 false
noncomputable def ZJ(a0:Int)(a1:List UInt8)(a2:List Int)(a3:List UInt8)(a4 a5:Int)(a6:List Token):Option Int :=
 Jt (ZW a1) a0
def Jat(a0:Int)(a1:List UInt8)(a2:List Int)(a3:List UInt8)(a4 a5:Int)(a6:List Token)(r:Int):GI :=
 ⟨[.c (.pt 1 0),cI a0,.c (.d (.v (.func (.func 71) #[] #[])))],[[kS a1,.d (.sl 1 (List.map dI a2)),kS a3,kI a4,kI a5,.sl 11 (List.map Ja a6) 2]],[44],.ret (cI r) [[kS a1,.d (.sl 1 (List.map dI a2)),kS a3,kI a4,kI a5,.sl 11 (List.map Ja a6) 2]] [44]⟩
def Jau:GI→Prop:=Sg7 ZJ Jat
theorem Jiq:∀ g,Jau g→Jm Tryz.prog 68 g:=by
 rintro _ ⟨a0,a1,a2,a3,a4,a5,a6,r,H,rfl⟩
 refine xGn mixed [(71,Jdw)] [] [] ⟨⟨JBp,Jlh⟩,trivial⟩ trivial trivial Tryz.func68 _ ?_
 have G:=True.intro
 have Y:=xZ y_9 <| xZ y_70 <| xZ y_99 <| xZ Tryz.results68 <| xZ Jk.eq_1 <| xZ Ja.eq_1 <| xZ J6.eq_1 <| Jat.eq_1
 dsimp only[Jat]
 simp only[ZJ]at H
 refine xS ?_
 refine xr ?_
 refine JZ (ZW a1) (fun s=>[(0,.c (.pt 1 0)),(1,cI s),(2,.c (.d (.v (.func (.func 71) #[] #[]))))]) (fun s=>[[kS a1,.d (.sl 1 (List.map dI a2)),kS a3,kI a4,kI a5,.sl 11 (List.map Ja a6) 2]]) [44] H (xK ⟨[1],[2]⟩) ?_
 rintro n1 x1 o1 H hF1
 rw[ZW]at H
 refine Vl ?_
 refine Jp (V6 x1) (fun s=>[(0,.c (.pt 1 0)),(1,cI x1),(2,.c (.d (.v (.func (.func 71) #[] #[])))),(25,cB s)]) (fun s=>[[kS a1,.d (.sl 1 (List.map dI a2)),kS a3,kI a4,kI a5,.sl 11 (List.map Ja a6) 2]]) [44] o1 ?_ ?_
 ·rcases xB Y G H with⟨p,H,F,G,q⟩|⟨p,H,F,G,q⟩
  ·obtain⟨g,H⟩:=Jd H
   obtain⟨r1,hr1,H⟩:=Ji H
   have F:=xCf F (JlR (a1.getD x1.toNat 0) r1 hr1)
   refine xR ?_
   exact Jb H (xK ⟨[1],[2]⟩)
  refine xR ?_
  exact Jb H (xK ⟨[1],[2]⟩)
 rintro x2 H
 rw[V6]at H
 rcases xB Y G H with⟨p,H,F,G,q⟩|⟨p,H,F,G,q⟩
 ·refine xT ?_
  refine xr ?_
  exact JB (JG H hF1) (xK ⟨[1],[2]⟩)
 replace H:=Js H hF1
 refine xE ?_
 replace H:=oI H
 refine xr ?_
 subst H
 refine xOr ?_
 refine qDf [] ?_
 exact xO ⟨[1],[2]⟩
theorem Jjf:Jc Tryz.prog 68∧(∀ g,Jau g→Jm Tryz.prog 68 g)∧(true=true→∀ g,Jau g→∃ val bs ts,g.out=.ret val bs ts) :=
 ⟨Jon,Jiq,fun _=>by rintro _ ⟨_,_,_,_,_,_,_,_,_,rfl⟩; exact⟨_,_,_,rfl⟩⟩
noncomputable def X6(x1:Int):Unit→Option (Int ⊕ Int)
 | ()=>some (.inl (IntKind.i64.wrap (x1+1)))
noncomputable def VO(x1:Int):Bool→Option (Int ⊕ Int)
 | x4=>if x4=true then inrO (some x1) else X6 x1 ()
noncomputable def Ka(x1:Int):YT→Option (Int ⊕ Int)
 | (x2,x3)=>if x3=true then X6 x1 () else if(!eqI (x2.toNat:Int) 46)=true then(Jbw x2).bind fun r1=>if(!r1)=true then(JbC x2).bind fun r2=>VO x1 (!r2) else VO x1 false else VO x1 false
noncomputable def Zb(a0:List UInt8)(a4:Int):Int→Option (Int ⊕ Int)
 | x1=>if(ltI x1 (a0.length:Int))=true then if(0:Int)≤x1∧x1.toNat<a0.length then if(eqI ((a0.getD x1.toNat 0).toNat:Int) 43)=true then if(ltI a4 x1)=true then if(0:Int)≤(IntKind.i64.wrap (x1-1))∧(IntKind.i64.wrap (x1-1)).toNat<a0.length then if(eqI ((a0.getD ((IntKind.i64.wrap (x1-1)).toNat) 0).toNat:Int) 101)=true then Ka x1 ((a0.getD x1.toNat 0),true) else if(0:Int)≤(IntKind.i64.wrap (x1-1))∧(IntKind.i64.wrap (x1-1)).toNat<a0.length then Ka x1 ((a0.getD x1.toNat 0),eqI ((a0.getD ((IntKind.i64.wrap (x1-1)).toNat) 0).toNat:Int) 69) else none else none else Ka x1 ((a0.getD x1.toNat 0),false) else if(eqI ((a0.getD x1.toNat 0).toNat:Int) 45)=true then if(ltI a4 x1)=true then if(0:Int)≤(IntKind.i64.wrap (x1-1))∧(IntKind.i64.wrap (x1-1)).toNat<a0.length then if(eqI ((a0.getD ((IntKind.i64.wrap (x1-1)).toNat) 0).toNat:Int) 101)=true then Ka x1 ((a0.getD x1.toNat 0),true) else if(0:Int)≤(IntKind.i64.wrap (x1-1))∧(IntKind.i64.wrap (x1-1)).toNat<a0.length then Ka x1 ((a0.getD x1.toNat 0),eqI ((a0.getD ((IntKind.i64.wrap (x1-1)).toNat) 0).toNat:Int) 69) else none else none else Ka x1 ((a0.getD x1.toNat 0),false) else Ka x1 ((a0.getD x1.toNat 0),false) else none else inrO (some x1)
noncomputable def JaZ(a0:List UInt8)(a1:List Int)(a2:List UInt8)(a3 a4:Int)(a5:List Token):Option Int :=
 Jt (Zb a0 a4) a4
def JbT(a0:List UInt8)(a1:List Int)(a2:List UInt8)(a3 a4:Int)(a5:List Token)(r:Int):GI :=
 ⟨[.c (.pt 1 0)],[[kS a0,.d (.sl 1 (List.map dI a1)),kS a2,kI a3,kI a4,.sl 11 (List.map Ja a5) 2]],[44],.ret (cI r) [[kS a0,.d (.sl 1 (List.map dI a1)),kS a2,kI a3,kI a4,.sl 11 (List.map Ja a5) 2]] [44]⟩
def JbF:GI→Prop:=Sg6 JaZ JbT
theorem Jj0:∀ g,JbF g→Jm Tryz.prog 73 g:=by
 rintro _ ⟨a0,a1,a2,a3,a4,a5,r,H,rfl⟩
 refine xGn mixed [(70,JcV),(72,JdI)] [] [] ⟨⟨JoE,JgB⟩,⟨Jou,Jha⟩,trivial⟩ trivial trivial Tryz.func73 _ ?_
 have G:=True.intro
 have Y:=xZ y_3 <| xZ y_9 <| xZ y_70 <| xZ y_99 <| xZ Tryz.results73 <| xZ Jk.eq_1 <| xZ Ja.eq_1 <| xZ J6.eq_1 <| JbT.eq_1
 dsimp only[JbT]
 simp only[JaZ]at H
 refine xS ?_
 refine xr ?_
 refine xr ?_
 refine xr ?_
 refine JZ (Zb a0 a4) (fun s=>[(0,.c (.pt 1 0)),(3,cS a0),(4,cI s)]) (fun s=>[[kS a0,.d (.sl 1 (List.map dI a1)),kS a2,kI a3,kI a4,.sl 11 (List.map Ja a5) 2]]) [44] H (xK ⟨[1],[2]⟩) ?_
 rintro n1 x1 o1 H hF1
 rw[Zb]at H
 refine xS ?_
 refine xr ?_
 rcases xB Y G H with⟨p,H,F,G,q⟩|⟨p,H,F,G,q⟩
 ·refine xT0 ?_
  refine Jbd ?_
  refine Jl ?_
  refine JaS ?_
  refine Jp (X6 x1) (fun s=>[(0,.c (.pt 1 0)),(3,cS a0),(4,cI x1)]) (fun s=>[[kS a0,.d (.sl 1 (List.map dI a1)),kS a2,kI a3,kI a4,.sl 11 (List.map Ja a5) 2]]) [44] o1 ?_ ?_
  ·refine xS ?_
   obtain⟨g,H⟩:=Jd H
   refine xr0 ?_
   refine Jl ?_
   refine JaS ?_
   refine Jp (Ka x1) (fun s=>[(0,.c (.pt 1 0)),(3,cS a0),(4,cI x1),(5,.c (.d (.v (.int .u8 (s.1.toNat:Int))))),(22,cB s.2)]) (fun s=>[[kS a0,.d (.sl 1 (List.map dI a1)),kS a2,kI a3,kI a4,.sl 11 (List.map Ja a5) 2]]) [44] o1 ?_ ?_
   ·rcases xB Y G H with⟨p,H,F,G,q⟩|⟨p,H,F,G,q⟩
    ·rcases xB F G H with⟨p,H,F,G,q⟩|⟨p,H,F,G,q⟩
     ·obtain⟨g,H⟩:=Jd H
      rcases xB F G H with⟨p,H,F,G,q⟩|⟨p,H,F,G,q⟩
      ·refine xR ?_
       exact Jb H (xK ⟨[1],[2]⟩)
      obtain⟨g,H⟩:=Jd H
      refine xR ?_
      exact Jb H (xK ⟨[1],[2]⟩)
     refine xR ?_
     exact Jb H (xK ⟨[1],[2]⟩)
    rcases xB F G H with⟨p,H,F,G,q⟩|⟨p,H,F,G,q⟩
    ·rcases xB F G H with⟨p,H,F,G,q⟩|⟨p,H,F,G,q⟩
     ·obtain⟨g,H⟩:=Jd H
      rcases xB F G H with⟨p,H,F,G,q⟩|⟨p,H,F,G,q⟩
      ·refine xR ?_
       exact Jb H (xK ⟨[1],[2]⟩)
      obtain⟨g,H⟩:=Jd H
      refine xR ?_
      exact Jb H (xK ⟨[1],[2]⟩)
     refine xR ?_
     exact Jb H (xK ⟨[1],[2]⟩)
    refine xR ?_
    exact Jb H (xK ⟨[1],[2]⟩)
   rintro ⟨x2,x3⟩ H
   rw[Ka]at H
   rcases xB Y G H with⟨p,H,F,G,q⟩|⟨p,H,F,G,q⟩
   ·refine xT ?_
    exact Jb H (xK ⟨[1],[2]⟩)
   refine xE0 ?_
   refine Jp (VO x1) (fun s=>[(0,.c (.pt 1 0)),(3,cS a0),(4,cI x1),(51,cB s)]) (fun s=>[[kS a0,.d (.sl 1 (List.map dI a1)),kS a2,kI a3,kI a4,.sl 11 (List.map Ja a5) 2]]) [44] o1 ?_ ?_
   ·rcases xB Y G H with⟨p,H,F,G,q⟩|⟨p,H,F,G,q⟩
    ·obtain⟨r1,hr1,H⟩:=Ji H
     have F:=xCf F (Jhu x2 r1 hr1)
     rcases xB F G H with⟨p,H,F,G,q⟩|⟨p,H,F,G,q⟩
     ·obtain⟨r2,hr2,H⟩:=Ji H
      have F:=xCf F (Jgg x2 r2 hr2)
      refine xR ?_
      exact Jb H (xK ⟨[1],[2]⟩)
     refine xR ?_
     exact Jb H (xK ⟨[1],[2]⟩)
    refine xR ?_
    exact Jb H (xK ⟨[1],[2]⟩)
   rintro x4 H
   rw[VO]at H
   rcases xB Y G H with⟨p,H,F,G,q⟩|⟨p,H,F,G,q⟩
   ·refine xT ?_
    replace H:=Js H hF1
    replace H:=oI H
    refine xr ?_
    subst H
    refine xOr ?_
    refine qDf [] ?_
    exact xO ⟨[1],[2]⟩
   refine xE ?_
   exact Jb H (xK ⟨[1],[2]⟩)
  rintro ⟨⟩ H
  rw[X6]at H
  refine xr ?_
  exact JB (JG H hF1) (xK ⟨[1],[2]⟩)
 replace H:=Js H hF1
 refine xE ?_
 replace H:=oI H
 refine xr ?_
 subst H
 refine xOr ?_
 refine qDf [] ?_
 exact xO ⟨[1],[2]⟩
theorem Jkr:Jc Tryz.prog 73∧(∀ g,JbF g→Jm Tryz.prog 73 g)∧(true=true→∀ g,JbF g→∃ val bs ts,g.out=.ret val bs ts) :=
 ⟨JBt,Jj0,fun _=>by rintro _ ⟨_,_,_,_,_,_,_,_,rfl⟩; exact⟨_,_,_,rfl⟩⟩
noncomputable def VN:(UInt8×Int)→Option YH
 | (x5,x6)=>some (.inl (x5,IntKind.i64.wrap (x6+1)))
noncomputable def X9(x2:Int):YT→Option YH
 | (x7,x8)=>if x8=true then VN (x7,IntKind.i64.wrap (x2+1)) else VN (x7,x2)
noncomputable def X7(a1:List UInt8)(x2:Int):YT→Option YH
 | (x3,x4)=>if x4=true then if(0:Int)≤x2∧x2.toNat<a1.length then if(eqI ((a1.getD x2.toNat 0).toNat:Int) (x3.toNat:Int))=true then inrO (some (IntKind.i64.wrap (x2+1))) else if(eqI ((a1.getD x2.toNat 0).toNat:Int) 92)=true then if(ltI (IntKind.i64.wrap (x2+1)) (a1.length:Int))=true then if(0:Int)≤(IntKind.i64.wrap (x2+1))∧(IntKind.i64.wrap (x2+1)).toNat<a1.length then X9 x2 (x3,!eqI ((a1.getD ((IntKind.i64.wrap (x2+1)).toNat) 0).toNat:Int) 10) else none else X9 x2 (x3,false) else VN (x3,x2) else none else inrO (some (-1))
noncomputable def Zc(a1:List UInt8):(UInt8×Int)→Option YH
 | (x1,x2)=>if(ltI x2 (a1.length:Int))=true then if(0:Int)≤x2∧x2.toNat<a1.length then X7 a1 x2 (x1,!eqI ((a1.getD x2.toNat 0).toNat:Int) 10) else none else X7 a1 x2 (x1,false)
noncomputable def Zd(a0:UInt8)(a1:List UInt8)(a2:List Int)(a3:List UInt8)(a4 a5:Int)(a6:List Token):Option Int :=
 Jt (Zc a1) (a0,IntKind.i64.wrap (a5+1))
def JbD(a0:UInt8)(a1:List UInt8)(a2:List Int)(a3:List UInt8)(a4 a5:Int)(a6:List Token)(r:Int):GI :=
 ⟨[.c (.pt 1 0),.c (.d (.v (.int .u8 (a0.toNat:Int))))],[[kS a1,.d (.sl 1 (List.map dI a2)),kS a3,kI a4,kI a5,.sl 11 (List.map Ja a6) 2]],[44],.ret (cI r) [[kS a1,.d (.sl 1 (List.map dI a2)),kS a3,kI a4,kI a5,.sl 11 (List.map Ja a6) 2]] [44]⟩
def Jbz:GI→Prop:=Sg7 Zd JbD
theorem JjZ:∀ g,Jbz g→Jm Tryz.prog 74 g:=by
 rintro _ ⟨a0,a1,a2,a3,a4,a5,a6,r,H,rfl⟩
 refine xGn mixed [] [] [] trivial trivial trivial Tryz.func74 _ ?_
 have G:=True.intro
 have Y:=xZ y_3 <| xZ y_9 <| xZ y_70 <| xZ y_99 <| xZ Tryz.results74 <| xZ Jk.eq_1 <| xZ Ja.eq_1 <| xZ J6.eq_1 <| JbD.eq_1
 dsimp only[JbD]
 simp only[Zd]at H
 refine xS ?_
 refine xr ?_
 refine xr ?_
 refine xr ?_
 refine JZ (Zc a1) (fun s=>[(1,.c (.d (.v (.int .u8 (s.1.toNat:Int))))),(5,cS a1),(6,cI s.2)]) (fun s=>[[kS a1,.d (.sl 1 (List.map dI a2)),kS a3,kI a4,kI a5,.sl 11 (List.map Ja a6) 2]]) [44] H (xK ⟨[1],[2]⟩) ?_
 rintro n1 ⟨x1,x2⟩ o1 H hF1
 rw[Zc]at H
 refine Vl ?_
 refine Jp (X7 a1 x2) (fun s=>[(1,.c (.d (.v (.int .u8 (s.1.toNat:Int))))),(5,cS a1),(6,cI x2),(26,cB s.2)]) (fun s=>[[kS a1,.d (.sl 1 (List.map dI a2)),kS a3,kI a4,kI a5,.sl 11 (List.map Ja a6) 2]]) [44] o1 ?_ ?_
 ·rcases xB Y G H with⟨p,H,F,G,q⟩|⟨p,H,F,G,q⟩
  ·obtain⟨g,H⟩:=Jd H
   refine xR ?_
   exact Jb H (xK ⟨[1],[2]⟩)
  refine xR ?_
  exact Jb H (xK ⟨[1],[2]⟩)
 rintro ⟨x3,x4⟩ H
 rw[X7]at H
 rcases xB Y G H with⟨p,H,F,G,q⟩|⟨p,H,F,G,q⟩
 ·refine xT0 ?_
  refine Jbd ?_
  refine Jl ?_
  refine Jp VN (fun s=>[(1,.c (.d (.v (.int .u8 (s.1.toNat:Int))))),(5,cS a1),(6,cI s.2)]) (fun s=>[[kS a1,.d (.sl 1 (List.map dI a2)),kS a3,kI a4,kI a5,.sl 11 (List.map Ja a6) 2]]) [44] o1 ?_ ?_
  ·refine xS ?_
   obtain⟨g,H⟩:=Jd H
   refine xr ?_
   refine xr ?_
   rcases xB Y G H with⟨p,H,F,G,q⟩|⟨p,H,F,G,q⟩
   ·refine xT ?_
    replace H:=Js H hF1
    replace H:=oI H
    refine xr ?_
    subst H
    refine xOr ?_
    refine qDf [] ?_
    exact xO ⟨[1],[2]⟩
   refine xE ?_
   refine xr ?_
   rcases xB Y G H with⟨p,H,F,G,q⟩|⟨p,H,F,G,q⟩
   ·refine xT0 ?_
    refine Jp (X9 x2) (fun s=>[(1,.c (.d (.v (.int .u8 (s.1.toNat:Int))))),(5,cS a1),(6,cI x2),(50,cB s.2)]) (fun s=>[[kS a1,.d (.sl 1 (List.map dI a2)),kS a3,kI a4,kI a5,.sl 11 (List.map Ja a6) 2]]) [44] o1 ?_ ?_
    ·rcases xB Y G H with⟨p,H,F,G,q⟩|⟨p,H,F,G,q⟩
     ·obtain⟨g,H⟩:=Jd H
      refine xR ?_
      exact Jb H (xK ⟨[1],[2]⟩)
     refine xR ?_
     exact Jb H (xK ⟨[1],[2]⟩)
    rintro ⟨x7,x8⟩ H
    rw[X9]at H
    rcases xB Y G H with⟨p,H,F,G,q⟩|⟨p,H,F,G,q⟩
    ·refine xT ?_
     refine xr ?_
     exact Jb H (xK ⟨[1],[2]⟩)
    refine xE ?_
    exact Jb H (xK ⟨[1],[2]⟩)
   refine xE ?_
   exact Jb H (xK ⟨[1],[2]⟩)
  rintro ⟨x5,x6⟩ H
  rw[VN]at H
  refine xr ?_
  exact JB (JG H hF1) (xK ⟨[1],[2]⟩)
 replace H:=Js H hF1
 refine xE ?_
 replace H:=oI H
 refine xr ?_
 subst H
 refine xOr ?_
 refine qDf [] ?_
 exact xO ⟨[1],[2]⟩
theorem JkM:Jc Tryz.prog 74∧(∀ g,Jbz g→Jm Tryz.prog 74 g)∧(true=true→∀ g,Jbz g→∃ val bs ts,g.out=.ret val bs ts) :=
 ⟨JBl,JjZ,fun _=>by rintro _ ⟨_,_,_,_,_,_,_,_,_,rfl⟩; exact⟨_,_,_,rfl⟩⟩
noncomputable def X3:Bool→Option Bool
 | x1=>some x1
noncomputable def Ja8(a0:UInt8):Option Bool :=
 if(!eqI (a0.toNat:Int) 62)=true then X3 (!eqI (a0.toNat:Int) 10) else X3 false
noncomputable def Jdd:PF:=PF.of (E1 dU) (fun a=>Ja8 a) dB
theorem JjR:JF Tryz.prog 100 Jdd:=by
 refine xF mixed [] [] trivial trivial Tryz.func100 ?_
 rintro a0 out H
 have G:=True.intro
 have Y:=Tryz.results100
 simp only[Ja8]at H
 refine xS ?_
 refine xr0 ?_
 refine Jl ?_
 refine Jp X3 (fun s=>[(2,cB s)]) (fun s=>[]) [] out ?_ ?_
 ·rcases xB Y G H with⟨p,H,F,G,q⟩|⟨p,H,F,G,q⟩
  ·refine xR ?_
   exact Jb H (xK ⟨[],[]⟩)
  refine xR ?_
  exact Jb H (xK ⟨[],[]⟩)
 rintro x1 H
 rw[X3]at H
 replace H:=oI H
 refine xS ?_
 subst H
 exact xN
theorem JkH(a0:UInt8)(r:Bool)(H:Ja8 a0=some r):PC Jdd [dU a0] (dB r):=PF.c (a:=a0) H
noncomputable def V9(x1:Int):Bool→Option (Int ⊕ Int)
 | x2=>if x2=true then some (.inl (IntKind.i64.wrap (x1+1))) else inrO (some x1)
noncomputable def ZS(a1:List UInt8):Int→Option (Int ⊕ Int)
 | x1=>if(ltI x1 (a1.length:Int))=true then if(0:Int)≤x1∧x1.toNat<a1.length then(Ja8 (a1.getD x1.toNat 0)).bind fun r1=>V9 x1 r1 else none else V9 x1 false
noncomputable def ZA(a0:Int)(a1:List UInt8)(a2:List Int)(a3:List UInt8)(a4 a5:Int)(a6:List Token):Option Int :=
 Jt (ZS a1) a0
def JaD(a0:Int)(a1:List UInt8)(a2:List Int)(a3:List UInt8)(a4 a5:Int)(a6:List Token)(r:Int):GI :=
 ⟨[.c (.pt 1 0),cI a0,.c (.d (.v (.func (.func 100) #[] #[])))],[[kS a1,.d (.sl 1 (List.map dI a2)),kS a3,kI a4,kI a5,.sl 11 (List.map Ja a6) 2]],[44],.ret (cI r) [[kS a1,.d (.sl 1 (List.map dI a2)),kS a3,kI a4,kI a5,.sl 11 (List.map Ja a6) 2]] [44]⟩
def JaB:GI→Prop:=Sg7 ZA JaD
theorem Jis:∀ g,JaB g→Jm Tryz.prog 68 g:=by
 rintro _ ⟨a0,a1,a2,a3,a4,a5,a6,r,H,rfl⟩
 refine xGn mixed [(100,Jdd)] [] [] ⟨⟨Jzb,JjR⟩,trivial⟩ trivial trivial Tryz.func68 _ ?_
 have G:=True.intro
 have Y:=xZ y_9 <| xZ y_70 <| xZ y_99 <| xZ Tryz.results68 <| xZ Jk.eq_1 <| xZ Ja.eq_1 <| xZ J6.eq_1 <| JaD.eq_1
 dsimp only[JaD]
 simp only[ZA]at H
 refine xS ?_
 refine xr ?_
 refine JZ (ZS a1) (fun s=>[(0,.c (.pt 1 0)),(1,cI s),(2,.c (.d (.v (.func (.func 100) #[] #[]))))]) (fun s=>[[kS a1,.d (.sl 1 (List.map dI a2)),kS a3,kI a4,kI a5,.sl 11 (List.map Ja a6) 2]]) [44] H (xK ⟨[1],[2]⟩) ?_
 rintro n1 x1 o1 H hF1
 rw[ZS]at H
 refine Vl ?_
 refine Jp (V9 x1) (fun s=>[(0,.c (.pt 1 0)),(1,cI x1),(2,.c (.d (.v (.func (.func 100) #[] #[])))),(25,cB s)]) (fun s=>[[kS a1,.d (.sl 1 (List.map dI a2)),kS a3,kI a4,kI a5,.sl 11 (List.map Ja a6) 2]]) [44] o1 ?_ ?_
 ·rcases xB Y G H with⟨p,H,F,G,q⟩|⟨p,H,F,G,q⟩
  ·obtain⟨g,H⟩:=Jd H
   obtain⟨r1,hr1,H⟩:=Ji H
   have F:=xCf F (JkH (a1.getD x1.toNat 0) r1 hr1)
   refine xR ?_
   exact Jb H (xK ⟨[1],[2]⟩)
  refine xR ?_
  exact Jb H (xK ⟨[1],[2]⟩)
 rintro x2 H
 rw[V9]at H
 rcases xB Y G H with⟨p,H,F,G,q⟩|⟨p,H,F,G,q⟩
 ·refine xT ?_
  refine xr ?_
  exact JB (JG H hF1) (xK ⟨[1],[2]⟩)
 replace H:=Js H hF1
 refine xE ?_
 replace H:=oI H
 refine xr ?_
 subst H
 refine xOr ?_
 refine qDf [] ?_
 exact xO ⟨[1],[2]⟩
theorem JiQ:Jc Tryz.prog 68∧(∀ g,JaB g→Jm Tryz.prog 68 g)∧(true=true→∀ g,JaB g→∃ val bs ts,g.out=.ret val bs ts) :=
 ⟨Jon,Jis,fun _=>by rintro _ ⟨_,_,_,_,_,_,_,_,_,rfl⟩; exact⟨_,_,_,rfl⟩⟩
noncomputable def Jah(r1:Int):Bool→Option Int
 | x2=>if x2=true then some (IntKind.i64.wrap (r1+1)) else some (-1)
noncomputable def J3(a0:List UInt8)(a1:List Int)(a2:List UInt8)(a3 a4:Int)(a5:List Token):Bool→Option Int
 | x1=>if x1=true then some (-1) else(ZA (IntKind.i64.wrap (a4+1)) a0 a1 a2 a3 a4 a5).bind fun r1=>if(ltI r1 (a0.length:Int))=true then if(0:Int)≤r1∧r1.toNat<a0.length then Jah r1 (eqI ((a0.getD r1.toNat 0).toNat:Int) 62) else none else Jah r1 false
noncomputable def JaP(a0:List UInt8)(a1:List Int)(a2:List UInt8)(a3 a4:Int)(a5:List Token):Option Int :=
 if(ltI (a5.length:Int) 2)=true then J3 a0 a1 a2 a3 a4 a5 true else if(0:Int)≤(IntKind.i64.wrap ((a5.length:Int)-1))∧(IntKind.i64.wrap ((a5.length:Int)-1)).toNat<a5.length then if(!eqS ((a5.getD ((IntKind.i64.wrap ((a5.length:Int)-1)).toNat) default).Text) [105,110,99,108,117,100,101])=true then J3 a0 a1 a2 a3 a4 a5 true else if(0:Int)≤(IntKind.i64.wrap ((a5.length:Int)-1))∧(IntKind.i64.wrap ((a5.length:Int)-1)).toNat<a5.length then if((a5.getD ((IntKind.i64.wrap ((a5.length:Int)-1)).toNat) default).First)=true then J3 a0 a1 a2 a3 a4 a5 true else if(0:Int)≤(IntKind.i64.wrap ((a5.length:Int)-2))∧(IntKind.i64.wrap ((a5.length:Int)-2)).toNat<a5.length then if(!((a5.getD ((IntKind.i64.wrap ((a5.length:Int)-2)).toNat) default).First))=true then J3 a0 a1 a2 a3 a4 a5 true else if(0:Int)≤(IntKind.i64.wrap ((a5.length:Int)-2))∧(IntKind.i64.wrap ((a5.length:Int)-2)).toNat<a5.length then J3 a0 a1 a2 a3 a4 a5 (!eqS ((a5.getD ((IntKind.i64.wrap ((a5.length:Int)-2)).toNat) default).Text) [35]) else none else none else none else none
def JcO(a0:List UInt8)(a1:List Int)(a2:List UInt8)(a3 a4:Int)(a5:List Token)(r:Int):GI :=
 ⟨[.c (.pt 1 0)],[[kS a0,.d (.sl 1 (List.map dI a1)),kS a2,kI a3,kI a4,.sl 11 (List.map Ja a5) 2]],[44],.ret (cI r) [[kS a0,.d (.sl 1 (List.map dI a1)),kS a2,kI a3,kI a4,.sl 11 (List.map Ja a5) 2]] [44]⟩
def JcB:GI→Prop:=Sg6 JaP JcO
theorem JlW:∀ g,JcB g→Jm Tryz.prog 75 g:=by
 rintro _ ⟨a0,a1,a2,a3,a4,a5,r,H,rfl⟩
 refine xGn mixed [] [(68,true,JaB)] [] trivial ⟨JiQ,trivial⟩ trivial Tryz.func75 _ ?_
 have G:=True.intro
 have Y:=xZ y_3 <| xZ y_4 <| xZ y_9 <| xZ y_24 <| xZ y_44 <| xZ y_70 <| xZ y_99 <| xZ Tryz.results75 <| xZ Jk.eq_1 <| xZ Ja.eq_1 <| xZ J6.eq_1 <| xZ JaD.eq_1 <| JcO.eq_1
 dsimp only[JcO]
 simp only[JaP]at H
 refine xS ?_
 refine xr ?_
 refine xr0 ?_
 refine Jl ?_
 refine Vl ?_
 refine Jp (J3 a0 a1 a2 a3 a4 a5) (fun s=>[(0,.c (.pt 1 0)),(58,cB s)]) (fun s=>[[kS a0,.d (.sl 1 (List.map dI a1)),kS a2,kI a3,kI a4,.sl 11 (List.map Ja a5) 2]]) [44] r ?_ ?_
 ·rcases xB Y G H with⟨p,H,F,G,q⟩|⟨p,H,F,G,q⟩
  ·refine xR ?_
   exact Jb H (xK ⟨[1],[2]⟩)
  obtain⟨g,H⟩:=Jd H
  have F:=xZ F (Jh Ja a5 ((IntKind.i64.wrap ((a5.length:Int)-1)).toNat) default default (by omega))
  rcases xB F G H with⟨p,H,F,G,q⟩|⟨p,H,F,G,q⟩
  ·refine xR ?_
   exact Jb H (xK ⟨[1],[2]⟩)
  obtain⟨g,H⟩:=Jd H
  have F:=xZ F (Jh Ja a5 ((IntKind.i64.wrap ((a5.length:Int)-1)).toNat) default default (by omega))
  rcases xB F G H with⟨p,H,F,G,q⟩|⟨p,H,F,G,q⟩
  ·refine xR ?_
   exact Jb H (xK ⟨[1],[2]⟩)
  obtain⟨g,H⟩:=Jd H
  have F:=xZ F (Jh Ja a5 ((IntKind.i64.wrap ((a5.length:Int)-2)).toNat) default default (by omega))
  rcases xB F G H with⟨p,H,F,G,q⟩|⟨p,H,F,G,q⟩
  ·refine xR ?_
   exact Jb H (xK ⟨[1],[2]⟩)
  obtain⟨g,H⟩:=Jd H
  have F:=xZ F (Jh Ja a5 ((IntKind.i64.wrap ((a5.length:Int)-2)).toNat) default default (by omega))
  refine xR ?_
  exact Jb H (xK ⟨[1],[2]⟩)
 rintro x1 H
 rw[J3]at H
 rcases xB Y G H with⟨p,H,F,G,q⟩|⟨p,H,F,G,q⟩
 ·refine xT ?_
  replace H:=oI H
  refine xr ?_
  subst H
  refine xOr ?_
  refine qDf [] ?_
  exact xO ⟨[1],[2]⟩
 refine xE ?_
 obtain⟨r1,hr1,H⟩:=Ji H
 have F:=Y
 refine xQ ?_
 refine xs 6 ?_
 refine xc ⟨[1],[2]⟩ (tabG 0 (cg7 hr1)) ?_
 refine xs 1 ?_
 refine xl ?_
 refine  ?_
 refine Jl ?_
 refine Vl ?_
 refine Jp (Jah r1) (fun s=>[(4,cI r1),(83,cB s)]) (fun s=>[[kS a0,.d (.sl 1 (List.map dI a1)),kS a2,kI a3,kI a4,.sl 11 (List.map Ja a5) 2]]) [44] r ?_ ?_
 ·rcases xB Y G H with⟨p,H,F,G,q⟩|⟨p,H,F,G,q⟩
  ·obtain⟨g,H⟩:=Jd H
   refine xR ?_
   exact Jb H (xK ⟨[1],[4]⟩)
  refine xR ?_
  exact Jb H (xK ⟨[1],[4]⟩)
 rintro x2 H
 rw[Jah]at H
 rcases xB Y G H with⟨p,H,F,G,q⟩|⟨p,H,F,G,q⟩
 ·refine xT ?_
  replace H:=oI H
  refine xr ?_
  subst H
  refine xOr ?_
  refine qDf [] ?_
  exact xO ⟨[1],[2]⟩
 refine xE ?_
 replace H:=oI H
 refine xr ?_
 subst H
 refine xOr ?_
 refine qDf [] ?_
 exact xO ⟨[1],[2]⟩
theorem Jmh:Jc Tryz.prog 75∧(∀ g,JcB g→Jm Tryz.prog 75 g)∧(true=true→∀ g,JcB g→∃ val bs ts,g.out=.ret val bs ts) :=
 ⟨JBV,JlW,fun _=>by rintro _ ⟨_,_,_,_,_,_,_,_,rfl⟩; exact⟨_,_,_,rfl⟩⟩
noncomputable def Jgo  : Option YO :=
 some [[46,46,46],[60,60,61],[62,62,61],[45,62],[43,43],[45,45],[60,60],[62,62],[60,61],[62,61],[61,61],[33,61],[38,38],[124,124],[43,61],[45,61],[42,61],[47,61],[37,61],[38,61],[124,61],[94,61],[35,35],[91],[93],[40],[41],[123],[125],[46],[38],[42],[43],[45],[126],[33],[47],[37],[60],[62],[94],[124],[63],[58],[59],[61],[44],[35]]
noncomputable def Jhq:PF:=PF.of E0 (fun _=>Jgo) (dL 1 dS)
theorem Js5:JF Tryz.prog 101 Jhq:=by
 refine xF mixed [] [] trivial trivial Tryz.func101 ?_
 rintro _ out H
 have G:=True.intro
 have Y:=xZ y_9 <| xZ y_41 <| Tryz.results101
 simp only[Jgo]at H
 refine xS ?_
 refine xr ?_
 replace H:=oI H
 refine xr ?_
 subst H
 exact xN
theorem Ju7  (r:YO) (H:Jgo  = some r):PC Jhq [] ((dL 1 dS) r):=PF.c (a:=()) H
noncomputable def Jai(a4 x1 x2:Int):((List UInt8)×Bool)→Option YP
 | (x3,x4)=>if x4=true then inrO (some (IntKind.i64.wrap (a4+(x3.length:Int)))) else some (.inl (x1,IntKind.i64.wrap (x2+1)))
noncomputable def Jam(a0:List UInt8)(a4:Int)(r1:YO):(Int×Int)→Option YP
 | (x1,x2)=>if(ltI x2 x1)=true then if(0:Int)≤x2∧x2.toNat<r1.length then if(leI ((r1.getD x2.toNat default).length:Int) (IntKind.i64.wrap ((a0.length:Int)-a4)))=true then if(0:Int)≤a4∧a4≤(IntKind.i64.wrap (a4+((r1.getD x2.toNat default).length:Int)))∧(IntKind.i64.wrap (a4+((r1.getD x2.toNat default).length:Int)))≤(a0.length:Int) then Jai a4 x1 x2 ((r1.getD x2.toNat default),eqS (List.take ((IntKind.i64.wrap (a4+((r1.getD x2.toNat default).length:Int))).toNat-a4.toNat) (List.drop a4.toNat a0)) (r1.getD x2.toNat default)) else none else Jai a4 x1 x2 ((r1.getD x2.toNat default),false) else none else inrO (some (-1))
noncomputable def JaV(a0:List UInt8)(a1:List Int)(a2:List UInt8)(a3 a4:Int)(a5:List Token):Option Int :=
 (Jgo).bind fun r1=>Jt (Jam a0 a4 r1) ((r1.length:Int),0)
def JcA(a0:List UInt8)(a1:List Int)(a2:List UInt8)(a3 a4:Int)(a5:List Token)(r:Int):GI :=
 ⟨[.c (.pt 1 0)],[[kS a0,.d (.sl 1 (List.map dI a1)),kS a2,kI a3,kI a4,.sl 11 (List.map Ja a5) 2]],[44],.ret (cI r) [[kS a0,.d (.sl 1 (List.map dI a1)),kS a2,kI a3,kI a4,.sl 11 (List.map Ja a5) 2]] [44]⟩
def Jcz:GI→Prop:=Sg6 JaV JcA
theorem JlU:∀ g,Jcz g→Jm Tryz.prog 76 g:=by
 rintro _ ⟨a0,a1,a2,a3,a4,a5,r,H,rfl⟩
 refine xGn mixed [(101,Jhq)] [] [] ⟨⟨Jzz,Js5⟩,trivial⟩ trivial trivial Tryz.func76 _ ?_
 have G:=True.intro
 have Y:=xZ y_3 <| xZ y_9 <| xZ y_41 <| xZ y_70 <| xZ y_99 <| xZ Tryz.results76 <| xZ Jk.eq_1 <| xZ Ja.eq_1 <| xZ J6.eq_1 <| JcA.eq_1
 dsimp only[JcA]
 simp only[JaV]at H
 refine xS ?_
 refine xr ?_
 obtain⟨r1,hr1,H⟩:=Ji H
 have F:=xC Y (Ju7  r1 hr1)
 refine xR ?_
 refine JZ (Jam a0 a4 r1) (fun s=>[(0,.c (.pt 1 0)),(5,.c (.d (.sl 1 (List.map dS r1)))),(6,cI s.1),(7,cI s.2)]) (fun s=>[[kS a0,.d (.sl 1 (List.map dI a1)),kS a2,kI a3,kI a4,.sl 11 (List.map Ja a5) 2]]) [44] H (xK ⟨[1],[2]⟩) ?_
 rintro n1 ⟨x1,x2⟩ o1 H hF1
 rw[Jam]at H
 refine xS ?_
 refine xr ?_
 rcases xB Y G H with⟨p,H,F,G,q⟩|⟨p,H,F,G,q⟩
 ·refine xT ?_
  obtain⟨g,H⟩:=Jd H
  have F:=xZ Y (Jh dS r1 x2.toNat default default (by omega))
  refine xR0 ?_
  refine Jl ?_
  refine Jp (Jai a4 x1 x2) (fun s=>[(0,.c (.pt 1 0)),(4,cS s.1),(5,.c (.d (.sl 1 (List.map dS r1)))),(6,cI x1),(7,cI x2),(45,cB s.2)]) (fun s=>[[kS a0,.d (.sl 1 (List.map dI a1)),kS a2,kI a3,kI a4,.sl 11 (List.map Ja a5) 2]]) [44] o1 ?_ ?_
  ·rcases xB Y G H with⟨p,H,F,G,q⟩|⟨p,H,F,G,q⟩
   ·obtain⟨g,H⟩:=Jd H
    refine xR ?_
    exact Jb H (xK ⟨[1],[2]⟩)
   refine xR ?_
   exact Jb H (xK ⟨[1],[2]⟩)
  rintro ⟨x3,x4⟩ H
  rw[Jai]at H
  rcases xB Y G H with⟨p,H,F,G,q⟩|⟨p,H,F,G,q⟩
  ·refine xT ?_
   replace H:=Js H hF1
   replace H:=oI H
   refine xr ?_
   subst H
   refine xOr ?_
   refine qDf [] ?_
   exact xO ⟨[1],[2]⟩
  refine xE ?_
  refine xr ?_
  exact JB (JG H hF1) (xK ⟨[1],[2]⟩)
 replace H:=Js H hF1
 refine xE ?_
 replace H:=oI H
 refine xr ?_
 subst H
 refine xOr ?_
 refine qDf [] ?_
 exact xO ⟨[1],[2]⟩
theorem Jma:Jc Tryz.prog 76∧(∀ g,Jcz g→Jm Tryz.prog 76 g)∧(true=true→∀ g,Jcz g→∃ val bs ts,g.out=.ret val bs ts) :=
 ⟨JBO,JlU,fun _=>by rintro _ ⟨_,_,_,_,_,_,_,_,rfl⟩; exact⟨_,_,_,rfl⟩⟩
noncomputable def V3(a1:List UInt8)(a2:List Int)(a3:List UInt8)(a4 a5:Int)(a6:List Token):Bool→Option (Int×Int)
 | x3=>if x3=true then(JaP a1 a2 a3 a4 a5 a6).bind fun r6=>some (7,r6) else(JaV a1 a2 a3 a4 a5 a6).bind fun r7=>if(ltI 0 r7)=true then(JaV a1 a2 a3 a4 a5 a6).bind fun r8=>some (5,r8) else some (6,IntKind.i64.wrap (a5+1))
noncomputable def Vv(a0:Bool)(a1:List UInt8)(a2:List Int)(a3:List UInt8)(a4 a5:Int)(a6:List Token):YT→Option (Int×Int)
 | (x1,x2)=>if x2=true then(JaZ a1 a2 a3 a4 a5 a6).bind fun r3=>some (2,r3) else if(eqI (x1.toNat:Int) 34)=true then(Zd x1 a1 a2 a3 a4 a5 a6).bind fun r4=>some (4,r4) else if(eqI (x1.toNat:Int) 39)=true then(Zd x1 a1 a2 a3 a4 a5 a6).bind fun r5=>some (3,r5) else if(eqI (x1.toNat:Int) 60)=true then if(!a0)=true then(JaP a1 a2 a3 a4 a5 a6).bind fun r9=>V3 a1 a2 a3 a4 a5 a6 (ltI 0 r9) else V3 a1 a2 a3 a4 a5 a6 false else V3 a1 a2 a3 a4 a5 a6 false
noncomputable def Jbr(a0:Bool)(a1:List UInt8)(a2:List Int)(a3:List UInt8)(a4 a5:Int)(a6:List Token):Option (Int×Int) :=
 if(0:Int)≤a5∧a5.toNat<a1.length then(Jbw (a1.getD a5.toNat 0)).bind fun r1=>if r1=true then(ZJ a5 a1 a2 a3 a4 a5 a6).bind fun r2=>some (1,r2) else(JbC (a1.getD a5.toNat 0)).bind fun r10=>if r10=true then Vv a0 a1 a2 a3 a4 a5 a6 ((a1.getD a5.toNat 0),true) else if(eqI ((a1.getD a5.toNat 0).toNat:Int) 46)=true then if(ltI (IntKind.i64.wrap (a5+1)) (a1.length:Int))=true then if(0:Int)≤(IntKind.i64.wrap (a5+1))∧(IntKind.i64.wrap (a5+1)).toNat<a1.length then(JbC (a1.getD ((IntKind.i64.wrap (a5+1)).toNat) 0)).bind fun r11=>Vv a0 a1 a2 a3 a4 a5 a6 ((a1.getD a5.toNat 0),r11) else none else Vv a0 a1 a2 a3 a4 a5 a6 ((a1.getD a5.toNat 0),false) else Vv a0 a1 a2 a3 a4 a5 a6 ((a1.getD a5.toNat 0),false) else none
def Jdl(a0:Bool)(a1:List UInt8)(a2:List Int)(a3:List UInt8)(a4 a5:Int)(a6:List Token)(r:(Int×Int)):GI :=
 ⟨[.c (.pt 1 0),cB a0],[[kS a1,.d (.sl 1 (List.map dI a2)),kS a3,kI a4,kI a5,.sl 11 (List.map Ja a6) 2]],[44],.ret (.tu [(false,[kI r.1]),(false,[kI r.2])]) [[kS a1,.d (.sl 1 (List.map dI a2)),kS a3,kI a4,kI a5,.sl 11 (List.map Ja a6) 2]] [44]⟩
def Jdk:GI→Prop:=Sg7 Jbr Jdl
theorem Jmf:∀ g,Jdk g→Jm Tryz.prog 50 g:=by
 rintro _ ⟨a0,a1,a2,a3,a4,a5,a6,r,H,rfl⟩
 refine xGn mixed [(70,JcV),(72,JdI)] [(68,true,Jau),(73,true,JbF),(74,true,Jbz),(75,true,JcB),(76,true,Jcz)] [] ⟨⟨JoE,JgB⟩,⟨Jou,Jha⟩,trivial⟩ ⟨Jjf,Jkr,JkM,Jmh,Jma,trivial⟩ trivial Tryz.func50 _ ?_
 have G:=True.intro
 have Y:=xZ y_3 <| xZ y_9 <| xZ y_70 <| xZ y_99 <| xZ Tryz.results50 <| xZ Jk.eq_1 <| xZ Ja.eq_1 <| xZ J6.eq_1 <| xZ Jat.eq_1 <| xZ JbT.eq_1 <| xZ JbD.eq_1 <| xZ JcO.eq_1 <| xZ JcA.eq_1 <| Jdl.eq_1
 dsimp only[Jdl]
 simp only[Jbr]at H
 refine xS ?_
 refine xr ?_
 refine xr ?_
 obtain⟨g,H⟩:=Jd H
 refine xr ?_
 obtain⟨r1,hr1,H⟩:=Ji H
 have F:=xC Y (Jhu (a1.getD a5.toNat 0) r1 hr1)
 refine xR ?_
 rcases xB Y G H with⟨p,H,F,G,q⟩|⟨p,H,F,G,q⟩
 ·refine xT ?_
  obtain⟨r2,hr2,H⟩:=Ji H
  have F:=Y
  refine xQ ?_
  refine xs 5 ?_
  refine xc ⟨[1],[2]⟩ (tabG 0 (cg7 hr2)) ?_
  refine xs 2 ?_
  refine xl ?_
  replace H:=oI H
  refine xS ?_
  subst H
  refine xOr ?_
  refine qDf [] ?_
  exact xO ⟨[1],[4]⟩
 refine xE0 ?_
 refine Jp (Vv a0 a1 a2 a3 a4 a5 a6) (fun s=>[(0,.c (.pt 1 0)),(1,cB a0),(7,.c (.d (.v (.int .u8 (s.1.toNat:Int))))),(28,cB s.2)]) (fun s=>[[kS a1,.d (.sl 1 (List.map dI a2)),kS a3,kI a4,kI a5,.sl 11 (List.map Ja a6) 2]]) [44] r ?_ ?_
 ·obtain⟨r10,hr10,H⟩:=Ji H
  have F:=xC Y (Jgg (a1.getD a5.toNat 0) r10 hr10)
  rcases xB F G H with⟨p,H,F,G,q⟩|⟨p,H,F,G,q⟩
  ·refine xR ?_
   exact Jb H (xK ⟨[1],[2]⟩)
  rcases xB F G H with⟨p,H,F,G,q⟩|⟨p,H,F,G,q⟩
  ·rcases xB F G H with⟨p,H,F,G,q⟩|⟨p,H,F,G,q⟩
   ·obtain⟨g,H⟩:=Jd H
    obtain⟨r11,hr11,H⟩:=Ji H
    have F:=xCf F (Jgg (a1.getD ((IntKind.i64.wrap (a5+1)).toNat) 0) r11 hr11)
    refine xR ?_
    exact Jb H (xK ⟨[1],[2]⟩)
   refine xR ?_
   exact Jb H (xK ⟨[1],[2]⟩)
  refine xR ?_
  exact Jb H (xK ⟨[1],[2]⟩)
 rintro ⟨x1,x2⟩ H
 rw[Vv]at H
 rcases xB Y G H with⟨p,H,F,G,q⟩|⟨p,H,F,G,q⟩
 ·refine xT ?_
  obtain⟨r3,hr3,H⟩:=Ji H
  have F:=Y
  refine xQ ?_
  refine xs 1 ?_
  refine xc ⟨[1],[2]⟩ (tabG 1 (cg6 hr3)) ?_
  refine xs 2 ?_
  refine xl ?_
  replace H:=oI H
  refine xS ?_
  subst H
  refine xOr ?_
  refine qDf [] ?_
  exact xO ⟨[1],[4]⟩
 refine xE ?_
 refine xr ?_
 rcases xB Y G H with⟨p,H,F,G,q⟩|⟨p,H,F,G,q⟩
 ·refine xT ?_
  obtain⟨r4,hr4,H⟩:=Ji H
  have F:=Y
  refine xQ ?_
  refine xs 2 ?_
  refine xc ⟨[1],[2]⟩ (tabG 2 (cg7 hr4)) ?_
  refine xs 2 ?_
  refine xl ?_
  replace H:=oI H
  refine xS ?_
  subst H
  refine xOr ?_
  refine qDf [] ?_
  exact xO ⟨[1],[4]⟩
 refine xE ?_
 refine xr ?_
 rcases xB Y G H with⟨p,H,F,G,q⟩|⟨p,H,F,G,q⟩
 ·refine xT ?_
  obtain⟨r5,hr5,H⟩:=Ji H
  have F:=Y
  refine xQ ?_
  refine xs 2 ?_
  refine xc ⟨[1],[2]⟩ (tabG 2 (cg7 hr5)) ?_
  refine xs 2 ?_
  refine xl ?_
  replace H:=oI H
  refine xS ?_
  subst H
  refine xOr ?_
  refine qDf [] ?_
  exact xO ⟨[1],[4]⟩
 refine xE0 ?_
 refine Jp (V3 a1 a2 a3 a4 a5 a6) (fun s=>[(0,.c (.pt 1 0)),(69,cB s)]) (fun s=>[[kS a1,.d (.sl 1 (List.map dI a2)),kS a3,kI a4,kI a5,.sl 11 (List.map Ja a6) 2]]) [44] r ?_ ?_
 ·rcases xB Y G H with⟨p,H,F,G,q⟩|⟨p,H,F,G,q⟩
  ·rcases xB F G H with⟨p,H,F,G,q⟩|⟨p,H,F,G,q⟩
   ·obtain⟨r9,hr9,H⟩:=Ji H
    have F:=F
    refine xQ ?_
    refine xs 8 ?_
    refine xc ⟨[1],[2]⟩ (tabG 3 (cg6 hr9)) ?_
    refine xs 3 ?_
    refine xl ?_
    refine xS ?_
    exact Jb H (xK ⟨[1],[4]⟩)
   refine xR ?_
   exact Jb H (xK ⟨[1],[2]⟩)
  refine xR ?_
  exact Jb H (xK ⟨[1],[2]⟩)
 rintro x3 H
 rw[V3]at H
 rcases xB Y G H with⟨p,H,F,G,q⟩|⟨p,H,F,G,q⟩
 ·refine xT ?_
  obtain⟨r6,hr6,H⟩:=Ji H
  have F:=Y
  refine xQ ?_
  refine xs 1 ?_
  refine xc ⟨[1],[2]⟩ (tabG 3 (cg6 hr6)) ?_
  refine xs 2 ?_
  refine xl ?_
  replace H:=oI H
  refine xS ?_
  subst H
  refine xOr ?_
  refine qDf [] ?_
  exact xO ⟨[1],[4]⟩
 refine xE ?_
 obtain⟨r7,hr7,H⟩:=Ji H
 have F:=Y
 refine xQ ?_
 refine xs 1 ?_
 refine xc ⟨[1],[2]⟩ (tabG 4 (cg6 hr7)) ?_
 refine xs 2 ?_
 refine xl ?_
 refine xS ?_
 rcases xB Y G H with⟨p,H,F,G,q⟩|⟨p,H,F,G,q⟩
 ·refine xT ?_
  obtain⟨r8,hr8,H⟩:=Ji H
  have F:=Y
  refine xQ ?_
  refine xs 1 ?_
  refine xc ⟨[1],[4]⟩ (tabG 4 (cg6 hr8)) ?_
  refine xs 2 ?_
  refine xl ?_
  replace H:=oI H
  refine xS ?_
  subst H
  refine xOr ?_
  refine qDf [] ?_
  exact xO ⟨[1],[6]⟩
 refine xE ?_
 replace H:=oI H
 refine xr ?_
 subst H
 refine xOr ?_
 refine qDf [] ?_
 exact xO ⟨[1],[4]⟩
theorem JmD:Jc Tryz.prog 50∧(∀ g,Jdk g→Jm Tryz.prog 50 g)∧(true=true→∀ g,Jdk g→∃ val bs ts,g.out=.ret val bs ts) :=
 ⟨JBj,Jmf,fun _=>by rintro _ ⟨_,_,_,_,_,_,_,_,_,rfl⟩; exact⟨_,_,_,rfl⟩⟩
noncomputable def JbJ(x2 x3:Int):Int→Option (YS ⊕ Int)
 | x4=>some (.inl (x4,x2,IntKind.i64.wrap (x3+1)))
noncomputable def JbG(a0:List UInt8):YS→Option (YS ⊕ Int)
 | (x1,x2,x3)=>if(ltI x3 x2)=true then if(0:Int)≤x3∧x3.toNat<a0.length then if(eqI ((a0.getD x3.toNat 0).toNat:Int) 10)=true then JbJ x2 x3 (IntKind.i64.wrap (x1+1)) else JbJ x2 x3 x1 else none else inrO (some x1)
noncomputable def Jco(a0:List UInt8)(a1:Int):Option Int :=
 Jt (JbG a0) (1,(if(a0.length:Int)<(if 0 > a1 then 0 else a1) then(a0.length:Int) else(if 0 > a1 then 0 else a1)),0)
noncomputable def Jfx:PF:=PF.of (E2 dS dI) (fun a=>Jco a.1 a.2) dI
theorem Jm3:JF Tryz.prog 51 Jfx:=by
 refine xF mixed [] [] trivial trivial Tryz.func51 ?_
 rintro ⟨a0,a1⟩ out H
 have G:=True.intro
 have Y:=xZ y_3 <| xZ y_9 <| Tryz.results51
 simp only[Jco]at H
 refine xS ?_
 refine xr ?_
 refine xr ?_
 refine xr ?_
 refine JZ (JbG a0) (fun s=>[(0,cS a0),(5,cI s.1),(11,cI s.2.1),(12,cI s.2.2)]) (fun s=>[]) [] H (xK ⟨[],[]⟩) ?_
 rintro n1 ⟨x1,x2,x3⟩ o1 H hF1
 rw[JbG]at H
 refine xS ?_
 refine xr ?_
 rcases xB Y G H with⟨p,H,F,G,q⟩|⟨p,H,F,G,q⟩
 ·refine xT0 ?_
  refine Jbd ?_
  refine Jl ?_
  refine Jp (JbJ x2 x3) (fun s=>[(0,cS a0),(5,cI s),(11,cI x2),(12,cI x3)]) (fun s=>[]) [] o1 ?_ ?_
  ·refine xS ?_
   refine xr ?_
   obtain⟨g,H⟩:=Jd H
   refine xr ?_
   rcases xB Y G H with⟨p,H,F,G,q⟩|⟨p,H,F,G,q⟩
   ·refine xT ?_
    refine xr ?_
    exact Jb H (xK ⟨[],[]⟩)
   refine xE ?_
   exact Jb H (xK ⟨[],[]⟩)
  rintro x4 H
  rw[JbJ]at H
  refine xr ?_
  exact JB (JG H hF1) (xK ⟨[],[]⟩)
 replace H:=Js H hF1
 refine xE ?_
 replace H:=oI H
 refine xr ?_
 subst H
 exact xN
theorem JoM(a0:List UInt8)(a1 r:Int)(H:Jco a0 a1=some r):PC Jfx [dS a0,dI a1] (dI r):=PF.c (a:=(a0,a1)) H
noncomputable def Jbq(a0:Int)(a1:List UInt8)(r1:Spliced)(x2:List Token)(r2:YC):Bool→Option Ys
 | x3=>(Xt r1 r2.2.2.2).bind fun r4=>(Jbr x3 r1.Text r1.At a1 a0 r2.2.2.2 x2).bind fun r5=>if(ltI r5.2 0)=true then inrO (some (([]:List Token),(⟨9,a0,r4⟩:Fault))) else if(0:Int)≤r2.2.2.2∧r2.2.2.2≤r5.2∧r5.2≤(r1.Text.length:Int) then(Xt r1 (IntKind.i64.wrap (r5.2-1))).bind fun r6=>(Jco a1 r4).bind fun r7=>if(x2.length + [(⟨r5.1,List.take (r5.2.toNat-r2.2.2.2.toNat) (List.drop r2.2.2.2.toNat r1.Text),r2.1,x3,a0,r4,IntKind.i64.wrap (r6+1),r7,([]:List (List UInt8)),([]:List Call),0⟩:Token)].length) * 120≤140737488355328 then some (.inl (r5.2,x2++[(⟨r5.1,List.take (r5.2.toNat-r2.2.2.2.toNat) (List.drop r2.2.2.2.toNat r1.Text),r2.1,x3,a0,r4,IntKind.i64.wrap (r6+1),r7,([]:List (List UInt8)),([]:List Call),0⟩:Token)])) else none else none
noncomputable def Jbt(a0:Int)(a1:List UInt8)(r1:Spliced):YI→Option Ys
 | (x1,x2)=>(Jdm r1.Text r1.At a1 a0 x1 x2).bind fun r2=>if(!r2.2.2.1)=true then(Xt r1 r2.2.2.2).bind fun r3=>inrO (some (([]:List Token),(⟨9,a0,r3⟩:Fault))) else if(eqI r2.2.2.2 (r1.Text.length:Int))=true then inrO (some (x2,(⟨0,(-1),0⟩:Fault))) else if(eqI (x2.length:Int) 0)=true then Jbq a0 a1 r1 x2 r2 true else Jbq a0 a1 r1 x2 r2 r2.2.1
noncomputable def KG(a0:Int)(a1:List UInt8):Option ((List Token)×Fault) :=
 if(ltI 3000 (a1.length:Int))=true then some (([]:List Token),(⟨4,a0,0⟩:Fault)) else(Jc9 a1).bind fun r1=>Jt (Jbt a0 a1 r1) (0,([]:List Token))
noncomputable def JgF:PF:=PF.of (E2 dI dS) (fun a=>KG a.1 a.2) (T2 (dL 11 Ja) J9)
theorem JsB:JF Tryz.prog 32 JgF:=by
 refine xF mixed [(47,Jf1),(49,JfK),(51,Jfx)] [(48,true,Jb3),(50,true,Jdk)] ⟨⟨JBd,Jor⟩,⟨JBh,Jm4⟩,⟨JBm,Jm3⟩,trivial⟩ ⟨JlO,JmD,trivial⟩ Tryz.func32 ?_
 rintro ⟨a0,a1⟩ out H
 have G:=True.intro
 have Y:=xZ y_3 <| xZ y_4 <| xZ y_9 <| xZ y_24 <| xZ y_29 <| xZ y_31 <| xZ y_41 <| xZ y_42 <| xZ y_44 <| xZ y_70 <| xZ y_99 <| xZ Tryz.results32 <| xZ Jk.eq_1 <| xZ Ja.eq_1 <| xZ J6.eq_1 <| xZ J9.eq_1 <| xZ Jb4.eq_1 <| Jdl.eq_1
 simp only[KG]at H
 refine xS ?_
 refine xr ?_
 refine xr ?_
 rcases xB Y G H with⟨p,H,F,G,q⟩|⟨p,H,F,G,q⟩
 ·refine xT ?_
  replace H:=oI H
  refine xr ?_
  subst H
  exact xN
 refine xE ?_
 obtain⟨r1,hr1,H⟩:=Ji H
 have F:=xC Y (JsC a1 r1 hr1)
 refine xR ?_
 refine JZ (Jbt a0 a1 r1) (fun s=>[(0,cI a0),(1,cS a1),(5,.c (.pt 1 0)),(6,.c (.pt 2 0))]) (fun s=>[[kI 0,kI 0,kI 0],[kS r1.Text,.d (.sl 1 (List.map dI r1.At)),kS a1,kI a0,kI s.1,.sl 11 (List.map Ja s.2) 3]]) [44] H (xK ⟨[1,2],[0]⟩) ?_
 rintro n1 ⟨x1,x2⟩ o1 H hF1
 rw[Jbt]at H
 refine xS ?_
 obtain⟨r2,hr2,H⟩:=Ji H
 have F:=Y
 refine xQ ?_
 refine xs 1 ?_
 refine xc ⟨[2],[3]⟩ (tabG 0 (cg6 hr2)) ?_
 refine xs 7 ?_
 refine xl ?_
 refine xS ?_
 refine xr ?_
 rcases xB Y G H with⟨p,H,F,G,q⟩|⟨p,H,F,G,q⟩
 ·refine xT ?_
  obtain⟨r3,hr3,H⟩:=Ji H
  have F:=xC Y (JfW r1 r2.2.2.2 r3 hr3)
  replace H:=Js H hF1
  replace H:=oI H
  refine xR ?_
  subst H
  exact xN
 refine xE ?_
 refine xr ?_
 rcases xB Y G H with⟨p,H,F,G,q⟩|⟨p,H,F,G,q⟩
 ·refine xT ?_
  replace H:=Js H hF1
  replace H:=oI H
  refine xr ?_
  subst H
  exact xN
 refine xE0 ?_
 refine Jbd ?_
 refine Jl ?_
 refine Jp (Jbq a0 a1 r1 x2 r2) (fun s=>[(0,cI a0),(1,cS a1),(5,.c (.pt 1 0)),(6,.c (.pt 2 0)),(7,cB r2.1),(10,cB s)]) (fun s=>[[kI 0,kI 0,kI 0],[kS r1.Text,.d (.sl 1 (List.map dI r1.At)),kS a1,kI a0,kI r2.2.2.2,.sl 11 (List.map Ja x2) 3]]) [44] o1 ?_ ?_
 ·rcases xB Y G H with⟨p,H,F,G,q⟩|⟨p,H,F,G,q⟩
  ·refine xR ?_
   exact Jb H (xK ⟨[1,2],[5]⟩)
  refine xR ?_
  exact Jb H (xK ⟨[1,2],[5]⟩)
 rintro x3 H
 rw[Jbq]at H
 refine xS ?_
 obtain⟨r4,hr4,H⟩:=Ji H
 have F:=xC Y (JfW r1 r2.2.2.2 r4 hr4)
 refine xR ?_
 obtain⟨r5,hr5,H⟩:=Ji H
 have F:=Y
 refine xQ ?_
 refine xs 2 ?_
 refine xc ⟨[2],[3]⟩ (tabG 1 (cg7 hr5)) ?_
 refine xs 5 ?_
 refine xl ?_
 refine xS ?_
 refine xr ?_
 rcases xB Y G H with⟨p,H,F,G,q⟩|⟨p,H,F,G,q⟩
 ·refine xT ?_
  replace H:=Js H hF1
  replace H:=oI H
  refine xr ?_
  subst H
  exact xN
 refine xE ?_
 obtain⟨g,H⟩:=Jd H
 obtain⟨r6,hr6,H⟩:=Ji H
 have F:=xC Y (JfW r1 (IntKind.i64.wrap (r5.2-1)) r6 hr6)
 obtain⟨r7,hr7,H⟩:=Ji H
 have F:=xCf F (JoM a1 r4 r7 hr7)
 obtain⟨g,H⟩:=Jd H
 have F:=xZ F (JQ KO [(⟨r5.1,List.take (r5.2.toNat-r2.2.2.2.toNat) (List.drop r2.2.2.2.toNat r1.Text),r2.1,x3,a0,r4,IntKind.i64.wrap (r6+1),r7,([]:List (List UInt8)),([]:List Call),0⟩:Token)])
 refine xR ?_
 refine xr ?_
 exact JB (JG H hF1) (xK ⟨[1,2],[6]⟩)
theorem JuR(a0:Int)(a1:List UInt8)(r:(List Token)×Fault)(H:KG a0 a1=some r):PC JgF [dI a0,dS a1] (T2 (dL 11 Ja) J9 r):=PF.c (a:=(a0,a1)) H
end Go.Proofs.YtfkhlbhjhdpkoaaGreatDoor
