/- Functions of data for functions of the program. Written by dec3.py. -/
import Derived.Test.YtfkhlbhjhdpkoaaGreatDoorZram
import Derived.Test.YtfkhlbhjhdpkoaaGreatDoorZran
import Derived.Test.YtfkhlbhjhdpkoaaGreatDoorZrbh
import Derived.Test.YtfkhlbhjhdpkoaaGreatDoorZrbi
import Derived.Test.YtfkhlbhjhdpkoaaGreatDoorZrbj
set_option linter.unusedVariables false
set_option linter.unusedSimpArgs false
set_option maxHeartbeats 4000000
set_option maxRecDepth 100000
namespace Go.Proofs.YtfkhlbhjhdpkoaaGreatDoor
open Go.RowKit
noncomputable def JaF(a0:Fault):Option (GR Unit Unit) :=
 if(!eqI a0.Err 0)=true then some (.er ()) else some (.ok ())
def Juq(a0:Fault):GR Unit Unit→GOut
 | .ok r=>.ret (.tu []) [] []
 | .er r=>.pan (.iface 78 (.agg ⟨[.int .i64 a0.Err,.int .i64 a0.File,.int .i64 a0.At]⟩)) [] []
def Ja3(a0:Fault)(r:GR Unit Unit):GI :=
 ⟨[.ag [kI a0.Err,kI a0.File,kI a0.At]],[],[],Juq a0 r⟩
def Jba:GI→Prop:=Sg1 JaF Ja3
theorem Jsm:∀ g,Jba g→Jm Tryz.prog 33 g:=by
 rintro _ ⟨a0,r,H,rfl⟩
 refine xGn mixed [] [] [] trivial trivial trivial Tryz.func33 _ ?_
 have G:=True.intro
 have Y:=xZ y_29 <| xZ y_31 <| xZ y_78 <| xZ Tryz.results33 <| xZ J9.eq_1 <| Ja3.eq_1
 dsimp only[Ja3]
 simp only[JaF]at H
 refine xS ?_
 refine xr ?_
 refine xr ?_
 rcases xB Y G H with⟨p,H,F,G,q⟩|⟨p,H,F,G,q⟩
 ·refine xT ?_
  have F:=Y
  refine xQp [5,6,7] ?_
  refine xs 3 ?_
  refine xv ?_
  replace H:=oI H
  refine xS ?_
  subst H
  refine xpD [] ?_
  exact xOv ⟨[],[]⟩
 replace H:=oI H
 refine xE ?_
 subst H
 refine xnD [] ?_
 exact xO ⟨[],[]⟩
theorem Ja0:Jc Tryz.prog 33∧(∀ g,Jba g→Jm Tryz.prog 33 g)∧(false=true→∀ g,Jba g→∃ val bs ts,g.out=.ret val bs ts) :=
 ⟨JBP,Jsm,nofun⟩
noncomputable def JeL(a0:drive_group):Option Bool :=
 some (!a0.on_)
noncomputable def JeS:PF:=PF.of (E1 Jj) (fun a=>JeL a) dB
theorem Jmp:JF Tryz.prog 53 JeS:=by
 refine xF mixed [] [] trivial trivial Tryz.func53 ?_
 rintro a0 out H
 have G:=True.intro
 have Y:=xZ y_4 <| xZ y_90 <| xZ Tryz.results53 <| xZ Jk.eq_1 <| xZ Ja.eq_1 <| Jj.eq_1
 simp only[JeL]at H
 refine xS ?_
 refine xr ?_
 replace H:=oI H
 refine xr ?_
 subst H
 exact xN
theorem Joi(a0:drive_group)(r:Bool)(H:JeL a0=some r):PC JeS [Jj a0] (dB r):=PF.c (a:=a0) H
noncomputable def VM(a0:List Token)(a1:List Source)(a2 a3 a4:Int)(a5:List Macro)(a6 a7:List Int)(a8:Int)(a9:List Token):Option (GR YS YL) :=
 (JcR a1 a5 a0 a2 a3).bind fun r1=>grB (JaF r1.2.2) (fun r2=>some (.ok (r1.1,r1.2.1))) (fun e1=>some (.er (r1.2.2.Err,r1.2.2.File,r1.2.2.At)))
def Jio(a0:List Token)(a1:List Source)(a2 a3 a4:Int)(a5:List Macro)(a6 a7:List Int)(a8:Int)(a9:List Token):GR YS YL→GOut
 | .ok r=>.ret (.c (.d (.sl 11 (List.map Ja r.1)))) [[.d (.sl 2 (List.map Jf a1)),kI r.2,kI a3,kI a4,.d (.sl 5 (List.map Je a5)),.sl 1 (List.map dI a6) 3,.os 2 11 0 a9.length,.sl 1 (List.map dI a7) 4,kI a8],[.arr 11 (List.map Ja a9)]] [3,3]
 | .er r=>.pan (.iface 78 (.agg ⟨[.int .i64 r.1,.int .i64 r.2.1,.int .i64 r.2.2]⟩)) [[.d (.sl 2 (List.map Jf a1)),kI a2,kI a3,kI a4,.d (.sl 5 (List.map Je a5)),.sl 1 (List.map dI a6) 3,.os 2 11 0 a9.length,.sl 1 (List.map dI a7) 4,kI a8],[.arr 11 (List.map Ja a9)]] [3,3]
def Xg(a0:List Token)(a1:List Source)(a2 a3 a4:Int)(a5:List Macro)(a6 a7:List Int)(a8:Int)(a9:List Token)(r:GR YS YL):GI :=
 ⟨[.c (.pt 1 0),.c (.d (.sl 11 (List.map Ja a0)))],[[.d (.sl 2 (List.map Jf a1)),kI a2,kI a3,kI a4,.d (.sl 5 (List.map Je a5)),.sl 1 (List.map dI a6) 3,.os 2 11 0 a9.length,.sl 1 (List.map dI a7) 4,kI a8],[.arr 11 (List.map Ja a9)]],[3,3],Jio a0 a1 a2 a3 a4 a5 a6 a7 a8 a9 r⟩
def Xb:GI→Prop:=Sg10 VM Xg
theorem JhU:∀ g,Xb g→Jm Tryz.prog 54 g:=by
 rintro _ ⟨a0,a1,a2,a3,a4,a5,a6,a7,a8,a9,r,H,rfl⟩
 refine xGn mixed [(78,Jgz)] [(33,false,Jba)] [] ⟨⟨JBq,Jsq⟩,trivial⟩ ⟨Ja0,trivial⟩ trivial Tryz.func54 _ ?_
 have G:=True.intro
 have Y:=xZ y_3 <| xZ y_28 <| xZ y_31 <| xZ y_37 <| xZ y_39 <| xZ y_65 <| xZ Tryz.results54 <| xZ Jf.eq_1 <| xZ Jk.eq_1 <| xZ Ja.eq_1 <| xZ Je.eq_1 <| xZ Kw.eq_1 <| xZ J9.eq_1 <| xZ Ja3.eq_1 <| Xg.eq_1
 dsimp only[Xg]
 simp only[VM]at H
 refine xS ?_
 refine xr ?_
 obtain⟨r1,hr1,H⟩:=Ji H
 have F:=xC Y (Jtr a1 a5 a0 a2 a3 r1 hr1)
 refine xR ?_
 rcases Zy H with⟨r2,hr2,H⟩|⟨e1,hr3,H⟩
 ·have F:=Y
  refine xQ ?_
  refine xs 1 ?_
  refine xc ⟨[],[]⟩ (tabG 0 (cg1 hr2)) ?_
  refine xl ?_
  refine xS ?_
  refine xr ?_
  replace H:=oI H
  refine xr ?_
  subst H
  refine xrD [] ?_
  exact xO ⟨[1,2],[3,4]⟩
 have F:=Y
 refine xQp [32,33] ?_
 refine xs 1 ?_
 refine xp ⟨[],[]⟩ (tabG 0 (cg1 hr3)) ?_
 replace H:=oI H
 refine xS ?_
 subst H
 refine xpD [] ?_
 exact xOv ⟨[1,2],[3,4]⟩
theorem Vg:Jc Tryz.prog 54∧(∀ g,Xb g→Jm Tryz.prog 54 g)∧(false=true→∀ g,Xb g→∃ val bs ts,g.out=.ret val bs ts) :=
 ⟨JBT,JhU,nofun⟩
noncomputable def Jd8(a0:Int)(a1:Token):Option Unit :=
 some ()
def Jdy(a0:Int)(a1:Token)(r:Unit):GI :=
 ⟨[cI a0,.c (.pp (List.drop 0 (Ja a1).cells))],[],[],.pan (.iface 78 (.agg ⟨[.int .i64 a0,.int .i64 a1.File,.int .i64 a1.At]⟩)) [] []⟩
def JdB:GI→Prop:=Sg2 Jd8 Jdy
theorem Jsr:∀ g,JdB g→Jm Tryz.prog 39 g:=by
 rintro _ ⟨a0,a1,r,H,rfl⟩
 refine xGn mixed [] [] [] trivial trivial trivial Tryz.func39 _ ?_
 have G:=True.intro
 have Y:=xZ y_3 <| xZ y_29 <| xZ y_31 <| xZ y_44 <| xZ y_78 <| xZ Tryz.results39 <| xZ Jk.eq_1 <| xZ Ja.eq_1 <| Jdy.eq_1
 dsimp only[Jdy]
 unfold Jd8 at H
 have F:=Y
 refine xQp [4,5,6,7,8,9,10,11,12,13,14,15] ?_
 refine xs 12 ?_
 refine xv ?_
 refine xS ?_
 refine xpD [] ?_
 exact xOv ⟨[],[]⟩
theorem Jfa:Jc Tryz.prog 39∧(∀ g,JdB g→Jm Tryz.prog 39 g)∧(false=true→∀ g,JdB g→∃ val bs ts,g.out=.ret val bs ts) :=
 ⟨JCg,Jsr,nofun⟩
noncomputable def Kj(a0:List Token)(a1:List Source)(a2 a3 a4:Int)(a5:List Macro)(a6 a7:List Int)(a8:Int)(a9:List Token):Option (GR Yy YI) :=
 if(eqI (a0.length:Int) 0)=true then some (.ok (a2,a9)) else grB (VM a0 a1 a2 a3 a4 a5 a6 a7 a8 a9) (fun r1=>if(a9.length+r1.1.length) * 120≤140737488355328 then if(ltI a3 ((a9.length+r1.1.length:Nat):Int))=true then if 0<a0.length then(Jd8 4 (a0.getD 0 default)).bind fun e2=>some (.er (4,(a0.getD 0 default).File,(a0.getD 0 default).At,r1.2,a9++r1.1)) else none else some (.ok (r1.2,a9++r1.1)) else none) (fun e1=>some (.er (e1.1,e1.2.1,e1.2.2,a2,a9)))
def JiN(a0:List Token)(a1:List Source)(a2 a3 a4:Int)(a5:List Macro)(a6 a7:List Int)(a8:Int)(a9:List Token):GR Yy YI→GOut
 | .ok r=>.ret (.tu []) [[.d (.sl 2 (List.map Jf a1)),kI r.1,kI a3,kI a4,.d (.sl 5 (List.map Je a5)),.sl 1 (List.map dI a6) 4,.os 3 11 0 r.2.length,.sl 1 (List.map dI a7) 5,kI a8],[],[.arr 11 (List.map Ja r.2)]] [3,3]
 | .er r=>.pan (.iface 78 (.agg ⟨[.int .i64 r.1,.int .i64 r.2.1,.int .i64 r.2.2.1]⟩)) [[.d (.sl 2 (List.map Jf a1)),kI r.2.2.2.1,kI a3,kI a4,.d (.sl 5 (List.map Je a5)),.sl 1 (List.map dI a6) 4,.os 3 11 0 r.2.2.2.2.length,.sl 1 (List.map dI a7) 5,kI a8],[],[.arr 11 (List.map Ja r.2.2.2.2)]] [3,3]
def JaC(a0:List Token)(a1:List Source)(a2 a3 a4:Int)(a5:List Macro)(a6 a7:List Int)(a8:Int)(a9:List Token)(r:GR Yy YI):GI :=
 ⟨[.c (.pt 1 0),.c (.d (.sl 11 (List.map Ja a0)))],[[.d (.sl 2 (List.map Jf a1)),kI a2,kI a3,kI a4,.d (.sl 5 (List.map Je a5)),.sl 1 (List.map dI a6) 3,.os 2 11 0 a9.length,.sl 1 (List.map dI a7) 4,kI a8],[.arr 11 (List.map Ja a9)]],[3,3],JiN a0 a1 a2 a3 a4 a5 a6 a7 a8 a9 r⟩
def Jas:GI→Prop:=Sg10 Kj JaC
theorem Jix:∀ g,Jas g→Jm Tryz.prog 36 g:=by
 rintro _ ⟨a0,a1,a2,a3,a4,a5,a6,a7,a8,a9,r,H,rfl⟩
 refine xGnl mixed [1] [] [(54,false,Xb),(39,false,JdB)] [] trivial ⟨Vg,Jfa,trivial⟩ trivial Tryz.func36 _ ?_
 have G:=True.intro
 have Y:=xZ y_3 <| xZ y_24 <| xZ y_27 <| xZ y_39 <| xZ y_44 <| xZ y_65 <| xZ Tryz.results36 <| xZ Jf.eq_1 <| xZ Jk.eq_1 <| xZ Ja.eq_1 <| xZ Je.eq_1 <| xZ Kw.eq_1 <| xZ Xg.eq_1 <| xZ Jdy.eq_1 <| JaC.eq_1
 dsimp only[JaC]
 simp only[Kj]at H
 refine xS ?_
 refine xrn 2 1 ?_
 refine xr ?_
 rcases xB Y G H with⟨p,H,F,G,q⟩|⟨p,H,F,G,q⟩
 ·replace H:=oI H
  refine xT ?_
  subst H
  refine xrD [] ?_
  exact xO ⟨[1,2,5],[3,4]⟩
 refine xE ?_
 rcases Zy H with⟨r1,hr1,H⟩|⟨e1,hr2,H⟩
 ·have F:=Y
  obtain⟨g,H⟩:=Jd H
  have F:=xZ F (JQ KO r1.1)
  have A:=JQ KO r1.1
  refine xP [0,1,2,3,4,5,6,7,8,9,10,11,12,13] [12,888888] ⟨Vg,Jfa,trivial⟩ ?_
  refine xsX 5 ?_
  refine xaX ?_
  refine xsX 2 ?_
  refine xcX ⟨[1,5],[3,4]⟩ (tabG 0 (cg10 hr1)) ?_
  refine xbX ?_
  refine xsX 4 ?_
  refine xlX ?_
  refine xS ?_
  refine xr ?_
  rcases xB Y G H with⟨p,H,F,G,q⟩|⟨p,H,F,G,q⟩
  ·refine xT ?_
   obtain⟨g,H⟩:=Jd H
   have F:=xZ Y (Jh Ja a0 0 default default (by omega))
   obtain⟨e2,hr4,H⟩:=Ji H
   have F:=F
   refine xQp [32,33,34] ?_
   refine xs 2 ?_
   refine xp ⟨[],[]⟩ (tabG 1 (cg2 hr4)) ?_
   replace H:=oI H
   refine xS ?_
   subst H
   refine xpD [] ?_
   exact xOv ⟨[1,2,10],[8,9]⟩
  replace H:=oI H
  refine xE ?_
  subst H
  refine xnD [] ?_
  exact xO ⟨[1,2,10],[8,9]⟩
 have F:=Y
 refine xPp [7,8,9,10,11,12,13,14,15,16,17,18,19] [0,1,2,3,4,5,6,7,8,9,10,11,12,13] [12,888888] ⟨Vg,Jfa,trivial⟩ ?_
 refine xsX 5 ?_
 refine xaX ?_
 refine xsX 2 ?_
 refine xpX ⟨[1,5],[3,4]⟩ (tabG 0 (cg10 hr2)) ?_
 replace H:=oI H
 refine xS ?_
 subst H
 refine xpD [] ?_
 exact xOv ⟨[1,2,5],[8,9]⟩
theorem JiV:Jc Tryz.prog 36∧(∀ g,Jas g→Jm Tryz.prog 36 g)∧(false=true→∀ g,Jas g→∃ val bs ts,g.out=.ret val bs ts) :=
 ⟨JBf,Jix,nofun⟩
noncomputable def V4:Bool→Option Bool
 | x1=>some x1
noncomputable def JbO(a0:List UInt8)(a1:List Source)(a2 a3 a4:Int)(a5:List Macro)(a6 a7:List Int)(a8:Int)(a9:List Token):Option Bool :=
 (Vz a5 a0).bind fun r1=>if(leI 0 r1)=true then V4 true else if(eqS a0 [95,95,76,73,78,69,95,95])=true then V4 true else V4 (eqS a0 [95,95,70,73,76,69,95,95])
def Xv(a0:List UInt8)(a1:List Source)(a2 a3 a4:Int)(a5:List Macro)(a6 a7:List Int)(a8:Int)(a9:List Token)(r:Bool):GI :=
 ⟨[.c (.pt 1 0),cS a0],[[.d (.sl 2 (List.map Jf a1)),kI a2,kI a3,kI a4,.d (.sl 5 (List.map Je a5)),.sl 1 (List.map dI a6) 3,.os 2 11 0 a9.length,.sl 1 (List.map dI a7) 4,kI a8],[.arr 11 (List.map Ja a9)]],[3,3],.ret (cB r) [[.d (.sl 2 (List.map Jf a1)),kI a2,kI a3,kI a4,.d (.sl 5 (List.map Je a5)),.sl 1 (List.map dI a6) 3,.os 2 11 0 a9.length,.sl 1 (List.map dI a7) 4,kI a8],[.arr 11 (List.map Ja a9)]] [3,3]⟩
def XI:GI→Prop:=Sg10 JbO Xv
theorem Jin:∀ g,XI g→Jm Tryz.prog 81 g:=by
 rintro _ ⟨a0,a1,a2,a3,a4,a5,a6,a7,a8,a9,r,H,rfl⟩
 refine xGn mixed [(86,JcZ)] [] [] ⟨⟨JoN,JgH⟩,trivial⟩ trivial trivial Tryz.func81 _ ?_
 have G:=True.intro
 have Y:=xZ y_28 <| xZ y_65 <| xZ Tryz.results81 <| xZ Jf.eq_1 <| xZ Jk.eq_1 <| xZ Ja.eq_1 <| xZ Je.eq_1 <| xZ Kw.eq_1 <| Xv.eq_1
 dsimp only[Xv]
 simp only[JbO]at H
 refine xS ?_
 refine xr0 ?_
 refine Jl ?_
 refine Jp V4 (fun s=>[(4,cB s)]) (fun s=>[[.d (.sl 2 (List.map Jf a1)),kI a2,kI a3,kI a4,.d (.sl 5 (List.map Je a5)),.sl 1 (List.map dI a6) 3,.os 2 11 0 a9.length,.sl 1 (List.map dI a7) 4,kI a8],[.arr 11 (List.map Ja a9)]]) [3,3] r ?_ ?_
 ·obtain⟨r1,hr1,H⟩:=Ji H
  have F:=xC Y (Jg3 a5 a0 r1 hr1)
  rcases xB F G H with⟨p,H,F,G,q⟩|⟨p,H,F,G,q⟩
  ·refine xR ?_
   exact Jb H (xK ⟨[1,2],[3,4]⟩)
  rcases xB F G H with⟨p,H,F,G,q⟩|⟨p,H,F,G,q⟩
  ·refine xR ?_
   exact Jb H (xK ⟨[1,2],[3,4]⟩)
  refine xR ?_
  exact Jb H (xK ⟨[1,2],[3,4]⟩)
 rintro x1 H
 rw[V4]at H
 replace H:=oI H
 refine xS ?_
 subst H
 refine xrD [] ?_
 exact xO ⟨[1,2],[3,4]⟩
theorem JaJ:Jc Tryz.prog 81∧(∀ g,XI g→Jm Tryz.prog 81 g)∧(true=true→∀ g,XI g→∃ val bs ts,g.out=.ret val bs ts) :=
 ⟨JBB,Jin,fun _=>by rintro _ ⟨_,_,_,_,_,_,_,_,_,_,_,_,rfl⟩; exact⟨_,_,_,rfl⟩⟩
noncomputable def XX:YI→Option Yz
 | (x3,x4)=>some (.inl (IntKind.i64.wrap (x3+1),x4))
noncomputable def X0(x2:List Token)(x8 x9:Bool)(x10 x11 x12 x13:Int)(x14:List (List UInt8))(x15:List Call)(x16:Int)(x22:List UInt8):Int→Option Yz
 | x23=>if(x2.length + [(⟨2,x22,x8,x9,x10,x11,x12,x13,x14,x15,x16⟩:Token)].length) * 120≤140737488355328 then XX (x23,x2++[(⟨2,x22,x8,x9,x10,x11,x12,x13,x14,x15,x16⟩:Token)]) else none
noncomputable def XS(x2:List Token)(x8 x9:Bool)(x10 x11 x12 x13:Int)(x14:List (List UInt8))(x15:List Call)(x16:Int)(x22:List UInt8):(Int×Bool)→Option Yz
 | (x24,x25)=>if x25=true then none else X0 x2 x8 x9 x10 x11 x12 x13 x14 x15 x16 x22 x24
noncomputable def XY(a0 x2:List Token)(x8 x9:Bool)(x10 x11 x12 x13:Int)(x14:List (List UInt8))(x15:List Call)(x16:Int)(x19:Bool)(x20:Int):(List UInt8)→Option Yz
 | x22=>if x19=true then if(leI (a0.length:Int) (IntKind.i64.wrap (x20+1)))=true then XS x2 x8 x9 x10 x11 x12 x13 x14 x15 x16 x22 (IntKind.i64.wrap (x20+1),true) else if(0:Int)≤(IntKind.i64.wrap (x20+1))∧(IntKind.i64.wrap (x20+1)).toNat<a0.length then XS x2 x8 x9 x10 x11 x12 x13 x14 x15 x16 x22 (IntKind.i64.wrap (x20+1),!eqS ((a0.getD ((IntKind.i64.wrap (x20+1)).toNat) default).Text) [41]) else none else X0 x2 x8 x9 x10 x11 x12 x13 x14 x15 x16 x22 x20
noncomputable def XR(a0:List Token)(a1:List Source)(a2 a3 a4:Int)(a5:List Macro)(a6 a7:List Int)(a8:Int)(a9 x2:List Token)(x8 x9:Bool)(x10 x11 x12 x13:Int)(x14:List (List UInt8))(x15:List Call)(x16:Int)(x19:Bool):(Int×Bool)→Option Yz
 | (x20,x21)=>if x21=true then none else if(0:Int)≤x20∧x20.toNat<a0.length then(JbO ((a0.getD x20.toNat default).Text) a1 a2 a3 a4 a5 a6 a7 a8 a9).bind fun r1=>if r1=true then XY a0 x2 x8 x9 x10 x11 x12 x13 x14 x15 x16 x19 x20 [49] else XY a0 x2 x8 x9 x10 x11 x12 x13 x14 x15 x16 x19 x20 [48] else none
noncomputable def XT(a0:List Token)(a1:List Source)(a2 a3 a4:Int)(a5:List Macro)(a6 a7:List Int)(a8:Int)(a9 x2:List Token)(x8 x9:Bool)(x10 x11 x12 x13:Int)(x14:List (List UInt8))(x15:List Call)(x16:Int):(Int×Bool)→Option Yz
 | (x18,x19)=>if(leI (a0.length:Int) (IntKind.i64.wrap (x18+1)))=true then XR a0 a1 a2 a3 a4 a5 a6 a7 a8 a9 x2 x8 x9 x10 x11 x12 x13 x14 x15 x16 x19 (IntKind.i64.wrap (x18+1),true) else if(0:Int)≤(IntKind.i64.wrap (x18+1))∧(IntKind.i64.wrap (x18+1)).toNat<a0.length then XR a0 a1 a2 a3 a4 a5 a6 a7 a8 a9 x2 x8 x9 x10 x11 x12 x13 x14 x15 x16 x19 (IntKind.i64.wrap (x18+1),!eqI ((a0.getD ((IntKind.i64.wrap (x18+1)).toNat) default).Kind) 1) else none
noncomputable def XV(a0:List Token)(a1:List Source)(a2 a3 a4:Int)(a5:List Macro)(a6 a7:List Int)(a8:Int)(a9:List Token)(x1:Int)(x2:List Token)(x8 x9:Bool)(x10 x11 x12 x13:Int)(x14:List (List UInt8))(x15:List Call)(x16:Int):Bool→Option Yz
 | x17=>if x17=true then XT a0 a1 a2 a3 a4 a5 a6 a7 a8 a9 x2 x8 x9 x10 x11 x12 x13 x14 x15 x16 (IntKind.i64.wrap (x1+1),true) else XT a0 a1 a2 a3 a4 a5 a6 a7 a8 a9 x2 x8 x9 x10 x11 x12 x13 x14 x15 x16 (x1,false)
noncomputable def X2(a0:List Token)(a1:List Source)(a2 a3 a4:Int)(a5:List Macro)(a6 a7:List Int)(a8:Int)(a9:List Token)(x1:Int)(x2:List Token):Yf→Option Yz
 | (x5,x6,x7,x8,x9,x10,x11,x12,x13,x14,x15,x16)=>if x5=true then if(x2.length + [(⟨x6,x7,x8,x9,x10,x11,x12,x13,x14,x15,x16⟩:Token)].length) * 120≤140737488355328 then XX (x1,x2++[(⟨x6,x7,x8,x9,x10,x11,x12,x13,x14,x15,x16⟩:Token)]) else none else if(ltI (IntKind.i64.wrap (x1+1)) (a0.length:Int))=true then if(0:Int)≤(IntKind.i64.wrap (x1+1))∧(IntKind.i64.wrap (x1+1)).toNat<a0.length then XV a0 a1 a2 a3 a4 a5 a6 a7 a8 a9 x1 x2 x8 x9 x10 x11 x12 x13 x14 x15 x16 (eqS ((a0.getD ((IntKind.i64.wrap (x1+1)).toNat) default).Text) [40]) else none else XV a0 a1 a2 a3 a4 a5 a6 a7 a8 a9 x1 x2 x8 x9 x10 x11 x12 x13 x14 x15 x16 false
noncomputable def Jbn(a0:List Token)(a1:List Source)(a2 a3 a4:Int)(a5:List Macro)(a6 a7:List Int)(a8:Int)(a9:List Token):YI→Option Yz
 | (x1,x2)=>if(ltI x1 (a0.length:Int))=true then if(0:Int)≤x1∧x1.toNat<a0.length then if(!eqS ((a0.getD x1.toNat default).Text) [100,101,102,105,110,101,100])=true then X2 a0 a1 a2 a3 a4 a5 a6 a7 a8 a9 x1 x2 (true,(a0.getD x1.toNat default).Kind,(a0.getD x1.toNat default).Text,(a0.getD x1.toNat default).Space,(a0.getD x1.toNat default).First,(a0.getD x1.toNat default).File,(a0.getD x1.toNat default).At,(a0.getD x1.toNat default).End,(a0.getD x1.toNat default).Line,(a0.getD x1.toNat default).Hide,(a0.getD x1.toNat default).Calls,(a0.getD x1.toNat default).Made) else X2 a0 a1 a2 a3 a4 a5 a6 a7 a8 a9 x1 x2 (!eqI ((a0.getD x1.toNat default).Kind) 1,(a0.getD x1.toNat default).Kind,(a0.getD x1.toNat default).Text,(a0.getD x1.toNat default).Space,(a0.getD x1.toNat default).First,(a0.getD x1.toNat default).File,(a0.getD x1.toNat default).At,(a0.getD x1.toNat default).End,(a0.getD x1.toNat default).Line,(a0.getD x1.toNat default).Hide,(a0.getD x1.toNat default).Calls,(a0.getD x1.toNat default).Made) else none else inrO (some x2)
noncomputable def JcJ(a0:List Token)(a1:List Source)(a2 a3 a4:Int)(a5:List Macro)(a6 a7:List Int)(a8:Int)(a9:List Token):Option (List Token) :=
 Jt (Jbn a0 a1 a2 a3 a4 a5 a6 a7 a8 a9) (0,([]:List Token))
def Zm(a0:List Token)(a1:List Source)(a2 a3 a4:Int)(a5:List Macro)(a6 a7:List Int)(a8:Int)(a9:List Token)(r:(List Token)):GI :=
 ⟨[.c (.pt 1 0),.c (.d (.sl 11 (List.map Ja a0)))],[[.d (.sl 2 (List.map Jf a1)),kI a2,kI a3,kI a4,.d (.sl 5 (List.map Je a5)),.sl 1 (List.map dI a6) 3,.os 2 11 0 a9.length,.sl 1 (List.map dI a7) 4,kI a8],[.arr 11 (List.map Ja a9)]],[3,3],.ret (.c (.d (.sl 11 (List.map Ja r)))) [[.d (.sl 2 (List.map Jf a1)),kI a2,kI a3,kI a4,.d (.sl 5 (List.map Je a5)),.sl 1 (List.map dI a6) 3,.os 2 11 0 a9.length,.sl 1 (List.map dI a7) 4,kI a8],[.arr 11 (List.map Ja a9)]] [3,3]⟩
def Zk:GI→Prop:=Sg10 JcJ Zm
theorem Jhz:∀ g,Zk g→Jm Tryz.prog 80 g:=by
 rintro _ ⟨a0,a1,a2,a3,a4,a5,a6,a7,a8,a9,r,H,rfl⟩
 refine xGn mixed [] [(81,true,XI)] [] trivial ⟨JaJ,trivial⟩ trivial Tryz.func80 _ ?_
 have G:=True.intro
 have Y:=xZ y_3 <| xZ y_9 <| xZ y_24 <| xZ y_44 <| xZ Tryz.results80 <| xZ Jf.eq_1 <| xZ Jk.eq_1 <| xZ Ja.eq_1 <| xZ Je.eq_1 <| xZ Kw.eq_1 <| xZ Xv.eq_1 <| Zm.eq_1
 dsimp only[Zm]
 simp only[JcJ]at H
 refine xS ?_
 refine xr ?_
 refine xr ?_
 refine xr ?_
 refine JZ (Jbn a0 a1 a2 a3 a4 a5 a6 a7 a8 a9) (fun s=>[(0,.c (.pt 1 0)),(1,.c (.d (.sl 11 (List.map Ja a0)))),(5,.c (.os 3 11 0 s.2.length)),(6,cI s.1)]) (fun s=>[[.d (.sl 2 (List.map Jf a1)),kI a2,kI a3,kI a4,.d (.sl 5 (List.map Je a5)),.sl 1 (List.map dI a6) 4,.os 2 11 0 a9.length,.sl 1 (List.map dI a7) 5,kI a8],[.arr 11 (List.map Ja a9)],[.arr 11 (List.map Ja s.2)]]) [3,3] H (xK ⟨[1,2,0],[3,4]⟩) ?_
 rintro n1 ⟨x1,x2⟩ o1 H hF1
 rw[Jbn]at H
 refine xS ?_
 refine xr ?_
 rcases xB Y G H with⟨p,H,F,G,q⟩|⟨p,H,F,G,q⟩
 ·refine xT0 ?_
  refine Jbd ?_
  refine Jl ?_
  refine Jp XX (fun s=>[(0,.c (.pt 1 0)),(1,.c (.d (.sl 11 (List.map Ja a0)))),(5,.c (.os 3 11 0 s.2.length)),(6,cI s.1)]) (fun s=>[[.d (.sl 2 (List.map Jf a1)),kI a2,kI a3,kI a4,.d (.sl 5 (List.map Je a5)),.sl 1 (List.map dI a6) 4,.os 2 11 0 a9.length,.sl 1 (List.map dI a7) 5,kI a8],[.arr 11 (List.map Ja a9)],[.arr 11 (List.map Ja s.2)]]) [3,3] o1 ?_ ?_
  ·refine xS ?_
   obtain⟨g,H⟩:=Jd H
   have F:=xZ Y (Jh Ja a0 x1.toNat default default (by omega))
   refine xR0 ?_
   refine Jl ?_
   refine Vl ?_
   refine Jp (X2 a0 a1 a2 a3 a4 a5 a6 a7 a8 a9 x1 x2) (fun s=>[(0,.c (.pt 1 0)),(1,.c (.d (.sl 11 (List.map Ja a0)))),(5,.c (.os 3 11 0 x2.length)),(6,cI x1),(7,.c (.pt 4 0)),(27,cB s.1)]) (fun s=>[[.d (.sl 2 (List.map Jf a1)),kI a2,kI a3,kI a4,.d (.sl 5 (List.map Je a5)),.sl 1 (List.map dI a6) 5,.os 2 11 0 a9.length,.sl 1 (List.map dI a7) 6,kI a8],[.arr 11 (List.map Ja a9)],[.arr 11 (List.map Ja x2)],[kI s.2.1,kS s.2.2.1,kB s.2.2.2.1,kB s.2.2.2.2.1,kI s.2.2.2.2.2.1,kI s.2.2.2.2.2.2.1,kI s.2.2.2.2.2.2.2.1,kI s.2.2.2.2.2.2.2.2.1,.d (.sl 1 (List.map dS s.2.2.2.2.2.2.2.2.2.1)),.d (.sl 3 (List.map Jk s.2.2.2.2.2.2.2.2.2.2.1)),kI s.2.2.2.2.2.2.2.2.2.2.2]]) [3,3] o1 ?_ ?_
   ·rcases xB Y G H with⟨p,H,F,G,q⟩|⟨p,H,F,G,q⟩
    ·refine xR ?_
     exact Jb H (xK ⟨[1,2,3,6],[4,5]⟩)
    refine xR ?_
    exact Jb H (xK ⟨[1,2,3,6],[4,5]⟩)
   rintro ⟨x5,x6,x7,x8,x9,x10,x11,x12,x13,x14,x15,x16⟩ H
   rw[X2]at H
   rcases xB Y G H with⟨p,H,F,G,q⟩|⟨p,H,F,G,q⟩
   ·refine xT ?_
    obtain⟨g,H⟩:=Jd H
    have F:=xZ Y (JQ KO [(⟨x6,x7,x8,x9,x10,x11,x12,x13,x14,x15,x16⟩:Token)])
    have L:[(⟨x6,x7,x8,x9,x10,x11,x12,x13,x14,x15,x16⟩:Token)].length=1:=rfl
    refine xR ?_
    exact Jb H (xK ⟨[1,2,7],[5,6]⟩)
   refine xE0 ?_
   refine Jbd ?_
   refine Jl ?_
   refine Jp (XV a0 a1 a2 a3 a4 a5 a6 a7 a8 a9 x1 x2 x8 x9 x10 x11 x12 x13 x14 x15 x16) (fun s=>[(0,.c (.pt 1 0)),(1,.c (.d (.sl 11 (List.map Ja a0)))),(5,.c (.os 3 11 0 x2.length)),(6,cI x1),(7,.c (.pt 4 0)),(8,cB s)]) (fun s=>[[.d (.sl 2 (List.map Jf a1)),kI a2,kI a3,kI a4,.d (.sl 5 (List.map Je a5)),.sl 1 (List.map dI a6) 5,.os 2 11 0 a9.length,.sl 1 (List.map dI a7) 6,kI a8],[.arr 11 (List.map Ja a9)],[.arr 11 (List.map Ja x2)],[kI x6,kS x7,kB x8,kB x9,kI x10,kI x11,kI x12,kI x13,.d (.sl 1 (List.map dS x14)),.d (.sl 3 (List.map Jk x15)),kI x16]]) [3,3] o1 ?_ ?_
   ·rcases xB Y G H with⟨p,H,F,G,q⟩|⟨p,H,F,G,q⟩
    ·obtain⟨g,H⟩:=Jd H
     have F:=xZ F (Jh Ja a0 ((IntKind.i64.wrap (x1+1)).toNat) default default (by omega))
     refine xR ?_
     exact Jb H (xK ⟨[1,2,3,4],[5,6]⟩)
    refine xR ?_
    exact Jb H (xK ⟨[1,2,3,4],[5,6]⟩)
   rintro x17 H
   rw[XV]at H
   refine Jp (XT a0 a1 a2 a3 a4 a5 a6 a7 a8 a9 x2 x8 x9 x10 x11 x12 x13 x14 x15 x16) (fun s=>[(0,.c (.pt 1 0)),(1,.c (.d (.sl 11 (List.map Ja a0)))),(5,.c (.os 3 11 0 x2.length)),(6,cI s.1),(7,.c (.pt 4 0)),(8,cB s.2)]) (fun s=>[[.d (.sl 2 (List.map Jf a1)),kI a2,kI a3,kI a4,.d (.sl 5 (List.map Je a5)),.sl 1 (List.map dI a6) 5,.os 2 11 0 a9.length,.sl 1 (List.map dI a7) 6,kI a8],[.arr 11 (List.map Ja a9)],[.arr 11 (List.map Ja x2)],[kI x6,kS x7,kB x8,kB x9,kI x10,kI x11,kI x12,kI x13,.d (.sl 1 (List.map dS x14)),.d (.sl 3 (List.map Jk x15)),kI x16]]) [3,3] o1 ?_ ?_
   ·refine xS ?_
    refine xr ?_
    rcases xB Y G H with⟨p,H,F,G,q⟩|⟨p,H,F,G,q⟩
    ·refine xT ?_
     refine xr ?_
     exact Jb H (xK ⟨[1,2,3,4],[5,6]⟩)
    refine xE ?_
    exact Jb H (xK ⟨[1,2,3,4],[5,6]⟩)
   rintro ⟨x18,x19⟩ H
   rw[XT]at H
   refine xS ?_
   refine xr0 ?_
   refine Jl ?_
   refine Jp (XR a0 a1 a2 a3 a4 a5 a6 a7 a8 a9 x2 x8 x9 x10 x11 x12 x13 x14 x15 x16 x19) (fun s=>[(0,.c (.pt 1 0)),(1,.c (.d (.sl 11 (List.map Ja a0)))),(5,.c (.os 3 11 0 x2.length)),(6,cI s.1),(7,.c (.pt 4 0)),(8,cB x19),(62,cB s.2)]) (fun s=>[[.d (.sl 2 (List.map Jf a1)),kI a2,kI a3,kI a4,.d (.sl 5 (List.map Je a5)),.sl 1 (List.map dI a6) 5,.os 2 11 0 a9.length,.sl 1 (List.map dI a7) 6,kI a8],[.arr 11 (List.map Ja a9)],[.arr 11 (List.map Ja x2)],[kI x6,kS x7,kB x8,kB x9,kI x10,kI x11,kI x12,kI x13,.d (.sl 1 (List.map dS x14)),.d (.sl 3 (List.map Jk x15)),kI x16]]) [3,3] o1 ?_ ?_
   ·rcases xB Y G H with⟨p,H,F,G,q⟩|⟨p,H,F,G,q⟩
    ·refine xR ?_
     exact Jb H (xK ⟨[1,2,3,4],[5,6]⟩)
    obtain⟨g,H⟩:=Jd H
    have F:=xZ F (Jh Ja a0 ((IntKind.i64.wrap (x18+1)).toNat) default default (by omega))
    refine xR ?_
    exact Jb H (xK ⟨[1,2,3,4],[5,6]⟩)
   rintro ⟨x20,x21⟩ H
   rw[XR]at H
   rcases xB Y G H with⟨p,H,F,G,q⟩|⟨p,H,F,G,q⟩
   ·refine xT ?_
    cases H
   refine xE ?_
   refine xr0 ?_
   refine Jl ?_
   refine Jp (XY a0 x2 x8 x9 x10 x11 x12 x13 x14 x15 x16 x19 x20) (fun s=>[(0,.c (.pt 1 0)),(1,.c (.d (.sl 11 (List.map Ja a0)))),(5,.c (.os 3 11 0 x2.length)),(6,cI x20),(7,.c (.pt 4 0)),(8,cB x19),(9,cS s)]) (fun s=>[[.d (.sl 2 (List.map Jf a1)),kI a2,kI a3,kI a4,.d (.sl 5 (List.map Je a5)),.sl 1 (List.map dI a6) 5,.os 2 11 0 a9.length,.sl 1 (List.map dI a7) 6,kI a8],[.arr 11 (List.map Ja a9)],[.arr 11 (List.map Ja x2)],[kI x6,kS x7,kB x8,kB x9,kI x10,kI x11,kI x12,kI x13,.d (.sl 1 (List.map dS x14)),.d (.sl 3 (List.map Jk x15)),kI x16]]) [3,3] o1 ?_ ?_
   ·refine xS ?_
    obtain⟨g,H⟩:=Jd H
    have F:=xZ Y (Jh Ja a0 x20.toNat default default (by omega))
    obtain⟨r1,hr1,H⟩:=Ji H
    have F:=F
    refine xQ ?_
    refine xs 6 ?_
    refine xc ⟨[1,2],[5,6]⟩ (tabG 0 (cg10 hr1)) ?_
    refine xl ?_
    refine xS ?_
    rcases xB Y G H with⟨p,H,F,G,q⟩|⟨p,H,F,G,q⟩
    ·refine xT ?_
     refine xr ?_
     exact Jb H (xK ⟨[1,2,3,4],[9,10]⟩)
    refine xE ?_
    exact Jb H (xK ⟨[1,2,3,4],[9,10]⟩)
   rintro x22 H
   rw[XY]at H
   refine Jp (X0 x2 x8 x9 x10 x11 x12 x13 x14 x15 x16 x22) (fun s=>[(0,.c (.pt 1 0)),(1,.c (.d (.sl 11 (List.map Ja a0)))),(5,.c (.os 3 11 0 x2.length)),(6,cI s),(7,.c (.pt 4 0)),(9,cS x22)]) (fun s=>[[.d (.sl 2 (List.map Jf a1)),kI a2,kI a3,kI a4,.d (.sl 5 (List.map Je a5)),.sl 1 (List.map dI a6) 5,.os 2 11 0 a9.length,.sl 1 (List.map dI a7) 6,kI a8],[.arr 11 (List.map Ja a9)],[.arr 11 (List.map Ja x2)],[kI x6,kS x7,kB x8,kB x9,kI x10,kI x11,kI x12,kI x13,.d (.sl 1 (List.map dS x14)),.d (.sl 3 (List.map Jk x15)),kI x16]]) [3,3] o1 ?_ ?_
   ·refine xS ?_
    refine xr ?_
    rcases xB Y G H with⟨p,H,F,G,q⟩|⟨p,H,F,G,q⟩
    ·refine xT ?_
     refine xr0 ?_
     refine Jl ?_
     refine Jp (XS x2 x8 x9 x10 x11 x12 x13 x14 x15 x16 x22) (fun s=>[(0,.c (.pt 1 0)),(1,.c (.d (.sl 11 (List.map Ja a0)))),(5,.c (.os 3 11 0 x2.length)),(6,cI s.1),(7,.c (.pt 4 0)),(9,cS x22),(85,cB s.2)]) (fun s=>[[.d (.sl 2 (List.map Jf a1)),kI a2,kI a3,kI a4,.d (.sl 5 (List.map Je a5)),.sl 1 (List.map dI a6) 5,.os 2 11 0 a9.length,.sl 1 (List.map dI a7) 6,kI a8],[.arr 11 (List.map Ja a9)],[.arr 11 (List.map Ja x2)],[kI x6,kS x7,kB x8,kB x9,kI x10,kI x11,kI x12,kI x13,.d (.sl 1 (List.map dS x14)),.d (.sl 3 (List.map Jk x15)),kI x16]]) [3,3] o1 ?_ ?_
     ·rcases xB Y G H with⟨p,H,F,G,q⟩|⟨p,H,F,G,q⟩
      ·refine xR ?_
       exact Jb H (xK ⟨[1,2,3,4],[5,6]⟩)
      obtain⟨g,H⟩:=Jd H
      have F:=xZ F (Jh Ja a0 ((IntKind.i64.wrap (x20+1)).toNat) default default (by omega))
      refine xR ?_
      exact Jb H (xK ⟨[1,2,3,4],[5,6]⟩)
     rintro ⟨x24,x25⟩ H
     rw[XS]at H
     rcases xB Y G H with⟨p,H,F,G,q⟩|⟨p,H,F,G,q⟩
     ·refine xT ?_
      cases H
     refine xE ?_
     exact Jb H (xK ⟨[1,2,3,4],[5,6]⟩)
    refine xE ?_
    exact Jb H (xK ⟨[1,2,3,4],[5,6]⟩)
   rintro x23 H
   rw[X0]at H
   refine xS ?_
   refine xr ?_
   obtain⟨g,H⟩:=Jd H
   have F:=xZ Y (JQ KO [(⟨2,x22,x8,x9,x10,x11,x12,x13,x14,x15,x16⟩:Token)])
   have L:[(⟨2,x22,x8,x9,x10,x11,x12,x13,x14,x15,x16⟩:Token)].length=1:=rfl
   refine xR ?_
   exact Jb H (xK ⟨[1,2,7],[5,6]⟩)
  rintro ⟨x3,x4⟩ H
  rw[XX]at H
  refine xr ?_
  exact JB (JG H hF1) (xK ⟨[1,2,3],[4,5]⟩)
 replace H:=Js H hF1
 refine xE ?_
 replace H:=oI H
 refine xr ?_
 subst H
 refine xOf 3 11 (List.map Ja x2) [] ?_
 refine xrD [] ?_
 exact xO ⟨[1,2],[4,5]⟩
theorem Jb1:Jc Tryz.prog 80∧(∀ g,Zk g→Jm Tryz.prog 80 g)∧(true=true→∀ g,Zk g→∃ val bs ts,g.out=.ret val bs ts) :=
 ⟨JBG,Jhz,fun _=>by rintro _ ⟨_,_,_,_,_,_,_,_,_,_,_,_,rfl⟩; exact⟨_,_,_,rfl⟩⟩
noncomputable def ZX(r2:YL)(r3:(Int×Int)):(Int×Int)→Option Yv
 | (x2,x3)=>grB (JaF (⟨0,x2,x3⟩:Fault)) (fun r4=>some (.ok (!eqI r3.1 0,r2.2))) (fun e2=>some (.er ((⟨0,x2,x3⟩:Fault).Err,(⟨0,x2,x3⟩:Fault).File,(⟨0,x2,x3⟩:Fault).At,r2.2)))
noncomputable def ZO(a0:List Token)(r2:YL)(r3:(Int×Int)):Bool→Option Yv
 | x4=>if x4=true then if 1<a0.length then if 1<a0.length then ZX r2 r3 ((a0.getD 1 default).File,(a0.getD 1 default).At) else none else none else ZX r2 r3 (r3.2,0)
noncomputable def ZT(a0:List Token)(a1:List Source)(a2 a3 a4:Int)(a5:List Macro)(a6 a7:List Int)(a8:Int)(a9:List Token):Bool→Option Yv
 | x5=>if x5=true then if 1<a0.length then none else none else if 2<a0.length then if 1<a0.length then(JbO ((a0.getD 2 default).Text) a1 a2 a3 a4 a5 a6 a7 a8 a9).bind fun r5=>some (.ok (eqB r5 (eqS ((a0.getD 1 default).Text) [105,102,100,101,102]),a2)) else none else none
noncomputable def Z6(a0:List Token)(a1:List Source)(a2 a3 a4:Int)(a5:List Macro)(a6 a7:List Int)(a8:Int)(a9:List Token):Bool→Option Yv
 | x1=>if x1=true then if(eqI (a0.length:Int) 2)=true then if 1<a0.length then none else none else if(0:Int)≤2∧2≤(a0.length:Int)∧(a0.length:Int)≤(a0.length:Int) then(JcJ (List.drop 2 a0) a1 a2 a3 a4 a5 a6 a7 a8 a9).bind fun r1=>grB (VM r1 a1 a2 a3 a4 a5 a6 a7 a8 a9) (fun r2=>(Jkj r2.1).bind fun r3=>if(ltI r3.2 0)=true then ZO a0 r2 r3 (!eqI 0 0) else ZO a0 r2 r3 false) (fun e1=>some (.er (e1.1,e1.2.1,e1.2.2,a2))) else none else if(!eqI (a0.length:Int) 3)=true then ZT a0 a1 a2 a3 a4 a5 a6 a7 a8 a9 true else if 2<a0.length then ZT a0 a1 a2 a3 a4 a5 a6 a7 a8 a9 (!eqI ((a0.getD 2 default).Kind) 1) else none
noncomputable def JbP(a0:List Token)(a1:List Source)(a2 a3 a4:Int)(a5:List Macro)(a6 a7:List Int)(a8:Int)(a9:List Token):Option Yv :=
 if 1<a0.length then if(eqS ((a0.getD 1 default).Text) [105,102])=true then Z6 a0 a1 a2 a3 a4 a5 a6 a7 a8 a9 true else Z6 a0 a1 a2 a3 a4 a5 a6 a7 a8 a9 (eqS ((a0.getD 1 default).Text) [101,108,105,102]) else none
def Jjg(a0:List Token)(a1:List Source)(a2 a3 a4:Int)(a5:List Macro)(a6 a7:List Int)(a8:Int)(a9:List Token):GR YG (Bool×Int)→GOut
 | .ok r=>.ret (cB r.1) [[.d (.sl 2 (List.map Jf a1)),kI r.2,kI a3,kI a4,.d (.sl 5 (List.map Je a5)),.sl 1 (List.map dI a6) 3,.os 2 11 0 a9.length,.sl 1 (List.map dI a7) 4,kI a8],[.arr 11 (List.map Ja a9)]] [3,3]
 | .er r=>.pan (.iface 78 (.agg ⟨[.int .i64 r.1,.int .i64 r.2.1,.int .i64 r.2.2.1]⟩)) [[.d (.sl 2 (List.map Jf a1)),kI r.2.2.2,kI a3,kI a4,.d (.sl 5 (List.map Je a5)),.sl 1 (List.map dI a6) 3,.os 2 11 0 a9.length,.sl 1 (List.map dI a7) 4,kI a8],[.arr 11 (List.map Ja a9)]] [3,3]
def Jaw(a0:List Token)(a1:List Source)(a2 a3 a4:Int)(a5:List Macro)(a6 a7:List Int)(a8:Int)(a9:List Token)(r:GR YG (Bool×Int)):GI :=
 ⟨[.c (.pt 1 0),.c (.d (.sl 11 (List.map Ja a0)))],[[.d (.sl 2 (List.map Jf a1)),kI a2,kI a3,kI a4,.d (.sl 5 (List.map Je a5)),.sl 1 (List.map dI a6) 3,.os 2 11 0 a9.length,.sl 1 (List.map dI a7) 4,kI a8],[.arr 11 (List.map Ja a9)]],[3,3],Jjg a0 a1 a2 a3 a4 a5 a6 a7 a8 a9 r⟩
def Jay:GI→Prop:=Sg10 JbP Jaw
theorem Jiw:∀ g,Jay g→Jm Tryz.prog 55 g:=by
 rintro _ ⟨a0,a1,a2,a3,a4,a5,a6,a7,a8,a9,r,H,rfl⟩
 refine xGnl mixed [8,13] [] [(80,true,Zk),(54,false,Xb),(79,true,Jgi),(33,false,Jba),(81,true,XI)] [] trivial ⟨Jb1,Vg,Jh2,Ja0,JaJ,trivial⟩ trivial Tryz.func55 _ ?_
 have G:=True.intro
 have Y:=xZ y_3 <| xZ y_4 <| xZ y_9 <| xZ y_24 <| xZ y_29 <| xZ y_31 <| xZ y_44 <| xZ Tryz.results55 <| xZ Jf.eq_1 <| xZ Jk.eq_1 <| xZ Ja.eq_1 <| xZ Je.eq_1 <| xZ Kw.eq_1 <| xZ J9.eq_1 <| xZ Zm.eq_1 <| xZ Xg.eq_1 <| xZ Jgd.eq_1 <| xZ Ja3.eq_1 <| xZ Xv.eq_1 <| Jaw.eq_1
 dsimp only[Jaw]
 simp only[JbP]at H
 refine xS ?_
 refine xr ?_
 obtain⟨g,H⟩:=Jd H
 have F:=xZ Y (Jh Ja a0 1 default default (by omega))
 refine xR0 ?_
 refine Jl ?_
 refine JaS ?_
 refine Jp (Z6 a0 a1 a2 a3 a4 a5 a6 a7 a8 a9) (fun s=>[(0,.c (.pt 1 0)),(1,.c (.d (.sl 11 (List.map Ja a0)))),(11,cB s)]) (fun s=>[[.d (.sl 2 (List.map Jf a1)),kI a2,kI a3,kI a4,.d (.sl 5 (List.map Je a5)),.sl 1 (List.map dI a6) 3,.os 2 11 0 a9.length,.sl 1 (List.map dI a7) 4,kI a8],[.arr 11 (List.map Ja a9)]]) [3,3] r ?_ ?_
 ·refine xS ?_
  refine xr ?_
  rcases xB Y G H with⟨p,H,F,G,q⟩|⟨p,H,F,G,q⟩
  ·refine xT ?_
   exact Jb H (xK ⟨[1,2],[3,4]⟩)
  refine xE ?_
  refine xr ?_
  exact Jb H (xK ⟨[1,2],[3,4]⟩)
 rintro x1 H
 rw[Z6]at H
 rcases xB Y G H with⟨p,H,F,G,q⟩|⟨p,H,F,G,q⟩
 ·refine xT ?_
  refine xr ?_
  rcases xB Y G H with⟨p,H,F,G,q⟩|⟨p,H,F,G,q⟩
  ·refine xT ?_
   obtain⟨g,H⟩:=Jd H
   have F:=xZ Y (Jh Ja a0 1 default default (by omega))
   cases H
  refine xE ?_
  obtain⟨g,H⟩:=Jd H
  obtain⟨r1,hr1,H⟩:=Ji H
  have F:=Y
  rcases Zy H with⟨r2,hr2,H⟩|⟨e1,hr3,H⟩
  ·have F:=F
   obtain⟨r3,hr4,H⟩:=Ji H
   have F:=F
   refine xQ ?_
   refine xs 4 ?_
   refine xc ⟨[1,2],[3,4]⟩ (tabG 0 (cg10 hr1)) ?_
   refine xc ⟨[1,2],[7,8]⟩ (tabG 1 (cg10 hr2)) ?_
   refine xc ⟨[],[]⟩ (tabG 2 (cg1 hr4)) ?_
   refine xs 6 ?_
   refine xl ?_
   refine  ?_
   refine Jl ?_
   refine Jp (ZX r2 r3) (fun s=>[(5,cI r3.1),(6,.c (.pt 3 0))]) (fun s=>[[.d (.sl 2 (List.map Jf a1)),kI r2.2,kI a3,kI a4,.d (.sl 5 (List.map Je a5)),.sl 1 (List.map dI a6) 4,.os 2 11 0 a9.length,.sl 1 (List.map dI a7) 5,kI a8],[.arr 11 (List.map Ja a9)],[kI 0,kI s.1,kI s.2]]) [3,3] r ?_ ?_
   ·refine Jp (ZO a0 r2 r3) (fun s=>[(1,.c (.d (.sl 11 (List.map Ja a0)))),(5,cI r3.1),(6,.c (.pt 3 0)),(37,cB s)]) (fun s=>[[.d (.sl 2 (List.map Jf a1)),kI r2.2,kI a3,kI a4,.d (.sl 5 (List.map Je a5)),.sl 1 (List.map dI a6) 4,.os 2 11 0 a9.length,.sl 1 (List.map dI a7) 5,kI a8],[.arr 11 (List.map Ja a9)],[kI 0,kI r3.2,kI 0]]) [3,3] r ?_ ?_
    ·rcases xB Y G H with⟨p,H,F,G,q⟩|⟨p,H,F,G,q⟩
     ·refine xR ?_
      exact Jb H (xK ⟨[1,2,13],[11,12]⟩)
     refine xR ?_
     exact Jb H (xK ⟨[1,2,13],[11,12]⟩)
    rintro x4 H
    rw[ZO]at H
    rcases xB Y G H with⟨p,H,F,G,q⟩|⟨p,H,F,G,q⟩
    ·refine xT ?_
     obtain⟨g,H⟩:=Jd H
     have F:=xZ Y (Jh Ja a0 1 default default (by omega))
     obtain⟨g,H⟩:=Jd H
     have F:=xZ F (Jh Ja a0 1 default default (by omega))
     refine xP [0,1,2,3,4,5,6,7,8,9,10,11] [45] ⟨Jb1,Vg,Jh2,Ja0,JaJ,trivial⟩ ?_
     refine xsX 7 ?_
     refine xaX ?_
     refine xsX 1 ?_
     refine xbX ?_
     refine xsX 1 ?_
     refine xbX ?_
     refine xlX ?_
     refine xS ?_
     exact Jb H (xK ⟨[1,2,3],[4,5]⟩)
    refine xE ?_
    exact Jb H (xK ⟨[1,2,3],[4,5]⟩)
   rintro ⟨x2,x3⟩ H
   rw[ZX]at H
   refine xS ?_
   rcases Zy H with⟨r4,hr5,H⟩|⟨e2,hr6,H⟩
   ·have F:=Y
    refine xQ ?_
    refine xs 1 ?_
    refine xc ⟨[],[]⟩ (tabG 3 (cg1 hr5)) ?_
    refine xl ?_
    refine xS ?_
    replace H:=oI H
    refine xr ?_
    subst H
    refine xrD [] ?_
    exact xO ⟨[1,2],[4,5]⟩
   have F:=Y
   refine xQp [48,49] ?_
   refine xs 1 ?_
   refine xp ⟨[],[]⟩ (tabG 3 (cg1 hr6)) ?_
   replace H:=oI H
   refine xS ?_
   subst H
   refine xpD [] ?_
   exact xOv ⟨[1,2],[4,5]⟩
  have F:=F
  refine xQp [21,22,23,24,25,26,27,20,28,29,6,5] ?_
  refine xs 4 ?_
  refine xc ⟨[1,2],[3,4]⟩ (tabG 0 (cg10 hr1)) ?_
  refine xp ⟨[1,2],[7,8]⟩ (tabG 1 (cg10 hr3)) ?_
  replace H:=oI H
  refine xS ?_
  subst H
  refine xpD [] ?_
  exact xOv ⟨[1,2],[11,12]⟩
 refine xE0 ?_
 refine Jbd ?_
 refine JkG ?_
 refine Jl ?_
 refine Vl ?_
 refine Jp (ZT a0 a1 a2 a3 a4 a5 a6 a7 a8 a9) (fun s=>[(0,.c (.pt 1 0)),(1,.c (.d (.sl 11 (List.map Ja a0)))),(61,cB s)]) (fun s=>[[.d (.sl 2 (List.map Jf a1)),kI a2,kI a3,kI a4,.d (.sl 5 (List.map Je a5)),.sl 1 (List.map dI a6) 3,.os 2 11 0 a9.length,.sl 1 (List.map dI a7) 4,kI a8],[.arr 11 (List.map Ja a9)]]) [3,3] r ?_ ?_
 ·rcases xB Y G H with⟨p,H,F,G,q⟩|⟨p,H,F,G,q⟩
  ·refine xR ?_
   exact Jb H (xK ⟨[1,2],[3,4]⟩)
  obtain⟨g,H⟩:=Jd H
  have F:=xZ F (Jh Ja a0 2 default default (by omega))
  refine xR ?_
  exact Jb H (xK ⟨[1,2],[3,4]⟩)
 rintro x5 H
 rw[ZT]at H
 rcases xB Y G H with⟨p,H,F,G,q⟩|⟨p,H,F,G,q⟩
 ·refine xT ?_
  obtain⟨g,H⟩:=Jd H
  have F:=xZ Y (Jh Ja a0 1 default default (by omega))
  cases H
 refine xE ?_
 obtain⟨g,H⟩:=Jd H
 have F:=xZ Y (Jh Ja a0 2 default default (by omega))
 obtain⟨g,H⟩:=Jd H
 have F:=xZ F (Jh Ja a0 1 default default (by omega))
 obtain⟨r5,hr7,H⟩:=Ji H
 have F:=F
 refine xP [0,1,2,3,4,6,7,8,9,10,5,11,12] [74] ⟨Jb1,Vg,Jh2,Ja0,JaJ,trivial⟩ ?_
 refine xsX 8 ?_
 refine xaX ?_
 refine xsX 1 ?_
 refine xcX ⟨[1,2],[3,4]⟩ (tabG 4 (cg10 hr7)) ?_
 refine xsX 2 ?_
 refine xlX ?_
 replace H:=oI H
 refine xS ?_
 subst H
 refine xrD [] ?_
 exact xO ⟨[1,2],[7,8]⟩
theorem Jji:Jc Tryz.prog 55∧(∀ g,Jay g→Jm Tryz.prog 55 g)∧(false=true→∀ g,Jay g→∃ val bs ts,g.out=.ret val bs ts) :=
 ⟨JBU,Jiw,nofun⟩
noncomputable def Kq(a1:List drive_group):(Nat×Int×Int)→Option ((Nat×Int×Int) ⊕ Int)
 | (x1,x2,x3)=>if(ltI x3 x2)=true then if(0:Int)≤x3∧x3.toNat<x1 then if x3.toNat<a1.length then(JeL (a1.getD x3.toNat default)).bind fun r1=>if r1=true then inrO (some x3) else some (.inl (x1,x2,IntKind.i64.wrap (x3+1))) else none else none else inrO (some (-1))
noncomputable def J2(a0:Nat)(a1:List drive_group):Option Int :=
 Jt (Kq a1) (a0,((a0:Nat):Int),0)
def JY(a0:Nat)(a1:List drive_group)(r:Int):GI :=
 ⟨[.c (.os 1 14 0 a0),.c (.d (.v (.func (.func 53) #[] #[])))],[[.arr 14 (List.map Jj a1)]],[],.ret (cI r) [[.arr 14 (List.map Jj a1)]] []⟩
def JX:GI→Prop:=Sg2 J2 JY
theorem Ja6:∀ g,JX g→Jm Tryz.prog 77 g:=by
 rintro _ ⟨a0,a1,r,H,rfl⟩
 refine xGn mixed [(53,JeS)] [] [] ⟨⟨JB1,Jmp⟩,trivial⟩ trivial trivial Tryz.func77 _ ?_
 have G:=True.intro
 have Y:=xZ y_80 <| xZ y_90 <| xZ Tryz.results77 <| xZ Jk.eq_1 <| xZ Ja.eq_1 <| xZ Jj.eq_1 <| JY.eq_1
 dsimp only[JY]
 simp only[J2]at H
 refine xS ?_
 refine xr ?_
 refine xr ?_
 refine JZ (Kq a1) (fun s=>[(0,.c (.os 1 14 0 s.1)),(1,.c (.d (.v (.func (.func 53) #[] #[])))),(7,cI s.2.1),(8,cI s.2.2)]) (fun s=>[[.arr 14 (List.map Jj a1)]]) [] H (xK ⟨[1],[]⟩) ?_
 rintro n1 ⟨x1,x2,x3⟩ o1 H hF1
 rw[Kq]at H
 refine xS ?_
 refine xr ?_
 rcases xB Y G H with⟨p,H,F,G,q⟩|⟨p,H,F,G,q⟩
 ·refine xT ?_
  refine xr ?_
  obtain⟨g,H⟩:=Jd H
  obtain⟨g,H⟩:=Jd H
  have F:=xZ Y (Jh Jj a1 x3.toNat default default (by omega))
  obtain⟨r1,hr1,H⟩:=Ji H
  have F:=xCf F (Joi (a1.getD x3.toNat default) r1 hr1)
  refine xR ?_
  rcases xB Y G H with⟨p,H,F,G,q⟩|⟨p,H,F,G,q⟩
  ·refine xT ?_
   replace H:=Js H hF1
   replace H:=oI H
   refine xr ?_
   subst H
   refine xrD [] ?_
   exact xO ⟨[1],[]⟩
  refine xE ?_
  refine xr ?_
  exact JB (JG H hF1) (xK ⟨[1],[]⟩)
 replace H:=Js H hF1
 refine xE ?_
 replace H:=oI H
 refine xr ?_
 subst H
 refine xrD [] ?_
 exact xO ⟨[1],[]⟩
theorem Jbm:Jc Tryz.prog 77∧(∀ g,JX g→Jm Tryz.prog 77 g)∧(true=true→∀ g,JX g→∃ val bs ts,g.out=.ret val bs ts) :=
 ⟨JBZ,Ja6,fun _=>by rintro _ ⟨_,_,_,_,rfl⟩; exact⟨_,_,_,rfl⟩⟩
noncomputable def JV(a0:Nat)(a1:List drive_group):Option Bool :=
 (J2 a0 a1).bind fun r1=>some (leI 0 r1)
def JR(a0:Nat)(a1:List drive_group)(r:Bool):GI :=
 ⟨[.c (.os 1 14 0 a0),.c (.d (.v (.func (.func 53) #[] #[])))],[[.arr 14 (List.map Jj a1)]],[],.ret (cB r) [[.arr 14 (List.map Jj a1)]] []⟩
def JS:GI→Prop:=Sg2 JV JR
theorem Jaj:∀ g,JS g→Jm Tryz.prog 52 g:=by
 rintro _ ⟨a0,a1,r,H,rfl⟩
 refine xGn mixed [] [(77,true,JX)] [] trivial ⟨Jbm,trivial⟩ trivial Tryz.func52 _ ?_
 have G:=True.intro
 have Y:=xZ Tryz.results52 <| xZ Jk.eq_1 <| xZ Ja.eq_1 <| xZ Jj.eq_1 <| xZ JY.eq_1 <| JR.eq_1
 dsimp only[JR]
 simp only[JV]at H
 refine xS ?_
 refine xr ?_
 obtain⟨r1,hr1,H⟩:=Ji H
 have F:=Y
 refine xQ ?_
 refine xs 2 ?_
 refine xc ⟨[1],[]⟩ (tabG 0 (cg2 hr1)) ?_
 refine xs 2 ?_
 refine xl ?_
 replace H:=oI H
 refine xS ?_
 subst H
 refine xrD [] ?_
 exact xO ⟨[1],[]⟩
theorem JaL:Jc Tryz.prog 52∧(∀ g,JS g→Jm Tryz.prog 52 g)∧(true=true→∀ g,JS g→∃ val bs ts,g.out=.ret val bs ts) :=
 ⟨JB9,Jaj,fun _=>by rintro _ ⟨_,_,_,_,rfl⟩; exact⟨_,_,_,rfl⟩⟩
noncomputable def Xf(a0:Nat)(a1:List drive_group):Option Bool :=
 (JV a0 a1).bind fun r1=>some (!r1)
def Ja2(a0:Nat)(a1:List drive_group)(r:Bool):GI :=
 ⟨[.c (.os 1 14 0 a0)],[[.arr 14 (List.map Jj a1)]],[],.ret (cB r) [[.arr 14 (List.map Jj a1)]] []⟩
def Ja9:GI→Prop:=Sg2 Xf Ja2
theorem JlT:∀ g,Ja9 g→Jm Tryz.prog 35 g:=by
 rintro _ ⟨a0,a1,r,H,rfl⟩
 refine xGn mixed [] [(52,true,JS)] [] trivial ⟨JaL,trivial⟩ trivial Tryz.func35 _ ?_
 have G:=True.intro
 have Y:=xZ Tryz.results35 <| xZ Jk.eq_1 <| xZ Ja.eq_1 <| xZ Jj.eq_1 <| xZ JR.eq_1 <| Ja2.eq_1
 dsimp only[Ja2]
 simp only[Xf]at H
 refine xS ?_
 refine xr ?_
 obtain⟨r1,hr1,H⟩:=Ji H
 have F:=Y
 refine xQ ?_
 refine xs 1 ?_
 refine xc ⟨[1],[]⟩ (tabG 0 (cg2 hr1)) ?_
 refine xs 2 ?_
 refine xl ?_
 replace H:=oI H
 refine xS ?_
 subst H
 refine xrD [] ?_
 exact xO ⟨[1],[]⟩
theorem Jhn:Jc Tryz.prog 35∧(∀ g,Ja9 g→Jm Tryz.prog 35 g)∧(true=true→∀ g,Ja9 g→∃ val bs ts,g.out=.ret val bs ts) :=
 ⟨JCe,JlT,fun _=>by rintro _ ⟨_,_,_,_,rfl⟩; exact⟨_,_,_,rfl⟩⟩
noncomputable def Xm(a10:List drive_group):(Nat×Int×Bool×Bool×Int×(List UInt8)×Bool×Bool×Int×Int×Int×Int×YO×(List Call)×Int)→Option Yj
 | (x5,x6,x7,x8,x9,x10,x11,x12,x13,x14,x15,x16,x17,x18,x19)=>if x5≤a10.length∧(x5 + [(⟨x7,x8,false,(⟨x9,x10,x11,x12,x13,x14,x15,x16,x17,x18,x19⟩:Token)⟩:drive_group)].length) * 128≤140737488355328 then some (.ok (x5 + [(⟨x7,x8,false,(⟨x9,x10,x11,x12,x13,x14,x15,x16,x17,x18,x19⟩:Token)⟩:drive_group)].length,true,x6,(List.take x5 a10)++[(⟨x7,x8,false,(⟨x9,x10,x11,x12,x13,x14,x15,x16,x17,x18,x19⟩:Token)⟩:drive_group)])) else none
noncomputable def Xn(x2:List UInt8)(x20:Nat):(Nat×Int×YR)→Option Yj
 | (x24,x25,x26)=>if(IntKind.i64.wrap (((x20:Nat):Int)-1)).toNat<x26.length then some (.ok (x24,true,x25,List.set x26 ((IntKind.i64.wrap (((x20:Nat):Int)-1)).toNat) (⟨(x26.getD ((IntKind.i64.wrap (((x20:Nat):Int)-1)).toNat) default).on_,(x26.getD ((IntKind.i64.wrap (((x20:Nat):Int)-1)).toNat) default).had_,eqS x2 [101,108,115,101],((x26.getD ((IntKind.i64.wrap (((x20:Nat):Int)-1)).toNat) default).at_)⟩:drive_group))) else none
noncomputable def Vb(x2:List UInt8)(x20:Nat):Yw→Option Yj
 | (x27,x28,x29,x30)=>if x28=true then if(IntKind.i64.wrap (((x20:Nat):Int)-1)).toNat<x30.length then if(IntKind.i64.wrap (((x20:Nat):Int)-1)).toNat<x30.length then Xn x2 x20 (x27,x29,List.set x30 ((IntKind.i64.wrap (((x20:Nat):Int)-1)).toNat) (⟨true,true,(x30.getD ((IntKind.i64.wrap (((x20:Nat):Int)-1)).toNat) default).last_,((x30.getD ((IntKind.i64.wrap (((x20:Nat):Int)-1)).toNat) default).at_)⟩:drive_group)) else none else none else Xn x2 x20 (x27,x29,x30)
noncomputable def Xo(a1:List Token)(a2:List Source)(a3 a4 a5:Int)(a6:List Macro)(a7 a8:List Int)(a9:Int)(a10:List drive_group)(a11:List Token)(x2:List UInt8)(x20:Nat):(Nat×Bool)→Option Yj
 | (x22,x23)=>if x23=true then if 2<a1.length then none else none else if(IntKind.i64.wrap (((x20:Nat):Int)-1)).toNat<a10.length then if(IntKind.i64.wrap (((x20:Nat):Int)-1)).toNat<a10.length then if(!((a10.getD ((IntKind.i64.wrap (((x20:Nat):Int)-1)).toNat) default).had_))=true then if(eqS x2 [101,108,115,101])=true then Vb x2 x20 (x22,true,a3,List.set a10 ((IntKind.i64.wrap (((x20:Nat):Int)-1)).toNat) (⟨false,(a10.getD ((IntKind.i64.wrap (((x20:Nat):Int)-1)).toNat) default).had_,(a10.getD ((IntKind.i64.wrap (((x20:Nat):Int)-1)).toNat) default).last_,((a10.getD ((IntKind.i64.wrap (((x20:Nat):Int)-1)).toNat) default).at_)⟩:drive_group)) else grB (JbP a1 a2 a3 a4 a5 a6 a7 a8 a9 a11) (fun r3=>Vb x2 x20 (x22,r3.1,r3.2,List.set a10 ((IntKind.i64.wrap (((x20:Nat):Int)-1)).toNat) (⟨false,(a10.getD ((IntKind.i64.wrap (((x20:Nat):Int)-1)).toNat) default).had_,(a10.getD ((IntKind.i64.wrap (((x20:Nat):Int)-1)).toNat) default).last_,((a10.getD ((IntKind.i64.wrap (((x20:Nat):Int)-1)).toNat) default).at_)⟩:drive_group))) (fun e2=>some (.er (e2.1,e2.2.1,e2.2.2.1,e2.2.2.2))) else Vb x2 x20 (x22,false,a3,List.set a10 ((IntKind.i64.wrap (((x20:Nat):Int)-1)).toNat) (⟨false,(a10.getD ((IntKind.i64.wrap (((x20:Nat):Int)-1)).toNat) default).had_,(a10.getD ((IntKind.i64.wrap (((x20:Nat):Int)-1)).toNat) default).last_,((a10.getD ((IntKind.i64.wrap (((x20:Nat):Int)-1)).toNat) default).at_)⟩:drive_group)) else none else none
noncomputable def Vd(a1:List Token)(a2:List Source)(a3 a4 a5:Int)(a6:List Macro)(a7 a8:List Int)(a9:Int)(a10:List drive_group)(a11:List Token)(x2:List UInt8):(Nat×Bool)→Option Yj
 | (x20,x21)=>if x21=true then if(eqI ((x20:Nat):Int) 0)=true then if 1<a1.length then none else none else if(0:Int)≤(IntKind.i64.wrap (((x20:Nat):Int)-1))∧(IntKind.i64.wrap (((x20:Nat):Int)-1)).toNat<x20 then if(eqS x2 [101,110,100,105,102])=true then if(ltI 2 (a1.length:Int))=true then if 2<a1.length then none else none else if(0:Int)≤0∧0≤(IntKind.i64.wrap (((x20:Nat):Int)-1))∧(IntKind.i64.wrap (((x20:Nat):Int)-1))≤((x20:Nat):Int) then some (.ok ((IntKind.i64.wrap (((x20:Nat):Int)-1)).toNat,true,a3,a10)) else none else if(IntKind.i64.wrap (((x20:Nat):Int)-1)).toNat<a10.length then if((a10.getD ((IntKind.i64.wrap (((x20:Nat):Int)-1)).toNat) default).last_)=true then if 1<a1.length then none else none else if(eqS x2 [101,108,115,101])=true then Xo a1 a2 a3 a4 a5 a6 a7 a8 a9 a10 a11 x2 x20 (x20,ltI 2 (a1.length:Int)) else Xo a1 a2 a3 a4 a5 a6 a7 a8 a9 a10 a11 x2 x20 (x20,false) else none else none else some (.ok (x20,false,a3,a10))
noncomputable def Vc(a1:List Token)(a2:List Source)(a3 a4 a5:Int)(a6:List Macro)(a7 a8:List Int)(a9:Int)(a10:List drive_group)(a11:List Token):(Nat×(List UInt8)×(List UInt8)×Bool)→Option Yj
 | (x1,x2,x3,x4)=>if x4=true then if(eqI ((x1:Nat):Int) 12)=true then if 1<a1.length then none else none else if 1<a1.length then(Xf x1 a10).bind fun r1=>if r1=true then grB (JbP a1 a2 a3 a4 a5 a6 a7 a8 a9 a11) (fun r2=>Xm a10 (x1,r2.2,r2.1,r2.1,(a1.getD 1 default).Kind,(a1.getD 1 default).Text,(a1.getD 1 default).Space,(a1.getD 1 default).First,(a1.getD 1 default).File,(a1.getD 1 default).At,(a1.getD 1 default).End,(a1.getD 1 default).Line,(a1.getD 1 default).Hide,(a1.getD 1 default).Calls,(a1.getD 1 default).Made)) (fun e1=>some (.er (e1.1,e1.2.1,e1.2.2.1,e1.2.2.2))) else Xm a10 (x1,a3,false,true,(a1.getD 1 default).Kind,(a1.getD 1 default).Text,(a1.getD 1 default).Space,(a1.getD 1 default).First,(a1.getD 1 default).File,(a1.getD 1 default).At,(a1.getD 1 default).End,(a1.getD 1 default).Line,(a1.getD 1 default).Hide,(a1.getD 1 default).Calls,(a1.getD 1 default).Made) else none else if(eqS x3 [101,108,105,102])=true then Vd a1 a2 a3 a4 a5 a6 a7 a8 a9 a10 a11 x2 (x1,true) else if(eqS x3 [101,108,115,101])=true then Vd a1 a2 a3 a4 a5 a6 a7 a8 a9 a10 a11 x2 (x1,true) else Vd a1 a2 a3 a4 a5 a6 a7 a8 a9 a10 a11 x2 (x1,eqS x3 [101,110,100,105,102])
noncomputable def JbY(a0:Nat)(a1:List Token)(a2:List Source)(a3 a4 a5:Int)(a6:List Macro)(a7 a8:List Int)(a9:Int)(a10:List drive_group)(a11:List Token):Option Yj :=
 if 1<a1.length then if(eqS ((a1.getD 1 default).Text) [105,102])=true then Vc a1 a2 a3 a4 a5 a6 a7 a8 a9 a10 a11 (a0,(a1.getD 1 default).Text,(a1.getD 1 default).Text,true) else if(eqS ((a1.getD 1 default).Text) [105,102,100,101,102])=true then Vc a1 a2 a3 a4 a5 a6 a7 a8 a9 a10 a11 (a0,(a1.getD 1 default).Text,(a1.getD 1 default).Text,true) else Vc a1 a2 a3 a4 a5 a6 a7 a8 a9 a10 a11 (a0,(a1.getD 1 default).Text,(a1.getD 1 default).Text,eqS ((a1.getD 1 default).Text) [105,102,110,100,101,102]) else none
def Jhr(a0:Nat)(a1:List Token)(a2:List Source)(a3 a4 a5:Int)(a6:List Macro)(a7 a8:List Int)(a9:Int)(a10:List drive_group)(a11:List Token):GR YG Yw→GOut
 | .ok r=>.ret (.tu [(false,[.os 4 14 0 r.1]),(false,[kB r.2.1])]) [[.d (.sl 2 (List.map Jf a2)),kI r.2.2.1,kI a4,kI a5,.d (.sl 5 (List.map Je a6)),.sl 1 (List.map dI a7) 6,.os 5 11 0 a11.length,.sl 1 (List.map dI a8) 7,kI a9],[],[],[.arr 14 (List.map Jj r.2.2.2)],[.arr 11 (List.map Ja a11)]] [3,3]
 | .er r=>.pan (.iface 78 (.agg ⟨[.int .i64 r.1,.int .i64 r.2.1,.int .i64 r.2.2.1]⟩)) [[.d (.sl 2 (List.map Jf a2)),kI r.2.2.2,kI a4,kI a5,.d (.sl 5 (List.map Je a6)),.sl 1 (List.map dI a7) 5,.os 4 11 0 a11.length,.sl 1 (List.map dI a8) 6,kI a9],[],[],[.arr 11 (List.map Ja a11)]] [3,3]
def XD(a0:Nat)(a1:List Token)(a2:List Source)(a3 a4 a5:Int)(a6:List Macro)(a7 a8:List Int)(a9:Int)(a10:List drive_group)(a11:List Token)(r:GR YG Yw):GI :=
 ⟨[.c (.pt 1 0),.c (.os 2 14 0 a0),.c (.d (.sl 11 (List.map Ja a1)))],[[.d (.sl 2 (List.map Jf a2)),kI a3,kI a4,kI a5,.d (.sl 5 (List.map Je a6)),.sl 1 (List.map dI a7) 4,.os 3 11 0 a11.length,.sl 1 (List.map dI a8) 5,kI a9],[.arr 14 (List.map Jj a10)],[.arr 11 (List.map Ja a11)]],[3,3],Jhr a0 a1 a2 a3 a4 a5 a6 a7 a8 a9 a10 a11 r⟩
def XJ:GI→Prop:=Sg12 JbY XD
theorem JgP:∀ g,XJ g→Jm Tryz.prog 37 g:=by
 rintro _ ⟨a0,a1,a2,a3,a4,a5,a6,a7,a8,a9,a10,a11,r,H,rfl⟩
 refine xGn mixed [] [(35,true,Ja9),(55,false,Jay)] [] trivial ⟨Jhn,Jji,trivial⟩ trivial Tryz.func37 _ ?_
 have G:=True.intro
 have Y:=xZ y_4 <| xZ y_9 <| xZ y_24 <| xZ y_44 <| xZ y_80 <| xZ y_90 <| xZ Tryz.results37 <| xZ Jf.eq_1 <| xZ Jk.eq_1 <| xZ Ja.eq_1 <| xZ Je.eq_1 <| xZ Kw.eq_1 <| xZ Jj.eq_1 <| xZ Ja2.eq_1 <| xZ Jaw.eq_1 <| XD.eq_1
 dsimp only[XD]
 simp only[JbY]at H
 refine xS ?_
 refine xrn 2 1 ?_
 refine xrn 3 1 ?_
 refine xr ?_
 obtain⟨g,H⟩:=Jd H
 have F:=xZ Y (Jh Ja a1 1 default default (by omega))
 refine xR ?_
 refine xr0 ?_
 refine Jl ?_
 refine JaS ?_
 refine Jp (Vc a1 a2 a3 a4 a5 a6 a7 a8 a9 a10 a11) (fun s=>[(0,.c (.pt 1 0)),(1,.c (.os 4 14 0 s.1)),(2,.c (.d (.sl 11 (List.map Ja a1)))),(8,cS s.2.1),(15,cS s.2.2.1),(17,cB s.2.2.2)]) (fun s=>[[.d (.sl 2 (List.map Jf a2)),kI a3,kI a4,kI a5,.d (.sl 5 (List.map Je a6)),.sl 1 (List.map dI a7) 6,.os 5 11 0 a11.length,.sl 1 (List.map dI a8) 7,kI a9],[],[],[.arr 14 (List.map Jj a10)],[.arr 11 (List.map Ja a11)]]) [3,3] r ?_ ?_
 ·refine xS ?_
  refine xr ?_
  rcases xB Y G H with⟨p,H,F,G,q⟩|⟨p,H,F,G,q⟩
  ·refine xT ?_
   exact Jb H (xK ⟨[1,2,3,6,7],[4,5]⟩)
  refine xE ?_
  refine xr ?_
  rcases xB Y G H with⟨p,H,F,G,q⟩|⟨p,H,F,G,q⟩
  ·refine xT ?_
   exact Jb H (xK ⟨[1,2,3,6,7],[4,5]⟩)
  refine xE ?_
  refine xr ?_
  exact Jb H (xK ⟨[1,2,3,6,7],[4,5]⟩)
 rintro ⟨x1,x2,x3,x4⟩ H
 rw[Vc]at H
 rcases xB Y G H with⟨p,H,F,G,q⟩|⟨p,H,F,G,q⟩
 ·refine xT ?_
  refine xr ?_
  rcases xB Y G H with⟨p,H,F,G,q⟩|⟨p,H,F,G,q⟩
  ·refine xT ?_
   obtain⟨g,H⟩:=Jd H
   have F:=xZ Y (Jh Ja a1 1 default default (by omega))
   cases H
  refine xE ?_
  obtain⟨g,H⟩:=Jd H
  have F:=xZ Y (Jh Ja a1 1 default default (by omega))
  refine xR0 ?_
  refine Jl ?_
  refine Jp (Xm a10) (fun s=>[(1,.c (.os 4 14 0 s.1)),(9,.c (.pt 5 0))]) (fun s=>[[.d (.sl 2 (List.map Jf a2)),kI s.2.1,kI a4,kI a5,.d (.sl 5 (List.map Je a6)),.sl 1 (List.map dI a7) 7,.os 6 11 0 a11.length,.sl 1 (List.map dI a8) 8,kI a9],[],[],[.arr 14 (List.map Jj a10)],[kB s.2.2.1,kB s.2.2.2.1,kB false,kI s.2.2.2.2.1,kS s.2.2.2.2.2.1,kB s.2.2.2.2.2.2.1,kB s.2.2.2.2.2.2.2.1,kI s.2.2.2.2.2.2.2.2.1,kI s.2.2.2.2.2.2.2.2.2.1,kI s.2.2.2.2.2.2.2.2.2.2.1,kI s.2.2.2.2.2.2.2.2.2.2.2.1,.d (.sl 1 (List.map dS s.2.2.2.2.2.2.2.2.2.2.2.2.1)),.d (.sl 3 (List.map Jk s.2.2.2.2.2.2.2.2.2.2.2.2.2.1)),kI s.2.2.2.2.2.2.2.2.2.2.2.2.2.2],[.arr 11 (List.map Ja a11)]]) [3,3] r ?_ ?_
  ·refine xS ?_
   obtain⟨r1,hr1,H⟩:=Ji H
   have F:=Y
   refine xQ ?_
   refine xs 1 ?_
   refine xc ⟨[4],[]⟩ (tabG 0 (cg2 hr1)) ?_
   refine xl ?_
   refine xS ?_
   rcases xB Y G H with⟨p,H,F,G,q⟩|⟨p,H,F,G,q⟩
   ·refine xT ?_
    rcases Zy H with⟨r2,hr2,H⟩|⟨e1,hr3,H⟩
    ·have F:=Y
     refine xQ ?_
     refine xs 2 ?_
     refine xc ⟨[1,5],[6,7]⟩ (tabG 1 (cg10 hr2)) ?_
     refine xs 2 ?_
     refine xl ?_
     refine xS ?_
     refine xr ?_
     exact Jb H (xK ⟨[1,2,3,4,8,5],[12,13]⟩)
    have F:=Y
    refine xQp [33,34,35,36] ?_
    refine xs 2 ?_
    refine xp ⟨[1,5],[6,7]⟩ (tabG 1 (cg10 hr3)) ?_
    replace H:=oI H
    refine xS ?_
    subst H
    refine xpD [] ?_
    exact xOv ⟨[1,2,3,5],[12,13]⟩
   refine xE ?_
   exact Jb H (xK ⟨[1,2,3,4,8,5],[6,7]⟩)
  rintro ⟨x5,x6,x7,x8,x9,x10,x11,x12,x13,x14,x15,x16,x17,x18,x19⟩ H
  rw[Xm]at H
  refine xS ?_
  obtain⟨g,H⟩:=Jd H
  have F:=xZ Y (JQ JnI [(⟨x7,x8,false,(⟨x9,x10,x11,x12,x13,x14,x15,x16,x17,x18,x19⟩:Token)⟩:drive_group)])
  have T:=JeP a10 x5 (by omega)
  have F:=xZ F (Nat.min_eq_left (show x5≤a10.length by omega))
  have G:=xZ G (Nat.min_eq_left (show x5≤a10.length by omega))
  have F:=xZ F (Jcw Jj T)
  have G:=xZ G (Jcw Jj T)
  have L:[(⟨x7,x8,false,(⟨x9,x10,x11,x12,x13,x14,x15,x16,x17,x18,x19⟩:Token)⟩:drive_group)].length=1:=rfl
  replace H:=oI H
  refine xR ?_
  subst H
  refine xrD [] ?_
  exact xO ⟨[1,2,3,9,6],[7,8]⟩
 refine xE0 ?_
 refine Jp (Vd a1 a2 a3 a4 a5 a6 a7 a8 a9 a10 a11 x2) (fun s=>[(0,.c (.pt 1 0)),(1,.c (.os 4 14 0 s.1)),(2,.c (.d (.sl 11 (List.map Ja a1)))),(8,cS x2),(44,cB s.2)]) (fun s=>[[.d (.sl 2 (List.map Jf a2)),kI a3,kI a4,kI a5,.d (.sl 5 (List.map Je a6)),.sl 1 (List.map dI a7) 6,.os 5 11 0 a11.length,.sl 1 (List.map dI a8) 7,kI a9],[],[],[.arr 14 (List.map Jj a10)],[.arr 11 (List.map Ja a11)]]) [3,3] r ?_ ?_
 ·refine xS ?_
  refine xr ?_
  rcases xB Y G H with⟨p,H,F,G,q⟩|⟨p,H,F,G,q⟩
  ·refine xT ?_
   exact Jb H (xK ⟨[1,2,3,4,5],[6,7]⟩)
  refine xE ?_
  refine xr ?_
  rcases xB Y G H with⟨p,H,F,G,q⟩|⟨p,H,F,G,q⟩
  ·refine xT ?_
   exact Jb H (xK ⟨[1,2,3,4,5],[6,7]⟩)
  refine xE ?_
  refine xr ?_
  exact Jb H (xK ⟨[1,2,3,4,5],[6,7]⟩)
 rintro ⟨x20,x21⟩ H
 rw[Vd]at H
 rcases xB Y G H with⟨p,H,F,G,q⟩|⟨p,H,F,G,q⟩
 ·refine xT ?_
  refine xr ?_
  rcases xB Y G H with⟨p,H,F,G,q⟩|⟨p,H,F,G,q⟩
  ·refine xT ?_
   obtain⟨g,H⟩:=Jd H
   have F:=xZ Y (Jh Ja a1 1 default default (by omega))
   cases H
  refine xE ?_
  obtain⟨g,H⟩:=Jd H
  refine xr ?_
  refine xr ?_
  rcases xB Y G H with⟨p,H,F,G,q⟩|⟨p,H,F,G,q⟩
  ·refine xT ?_
   refine xr ?_
   rcases xB Y G H with⟨p,H,F,G,q⟩|⟨p,H,F,G,q⟩
   ·refine xT ?_
    obtain⟨g,H⟩:=Jd H
    have F:=xZ Y (Jh Ja a1 2 default default (by omega))
    cases H
   refine xE ?_
   obtain⟨g,H⟩:=Jd H
   replace H:=oI H
   refine xr ?_
   subst H
   refine xrD [] ?_
   exact xO ⟨[1,2,3,4,5],[6,7]⟩
  refine xE ?_
  obtain⟨g,H⟩:=Jd H
  have F:=xZ Y (Jh Jj a10 ((IntKind.i64.wrap (((x20:Nat):Int)-1)).toNat) default default (by omega))
  refine xR ?_
  rcases xB Y G H with⟨p,H,F,G,q⟩|⟨p,H,F,G,q⟩
  ·refine xT ?_
   obtain⟨g,H⟩:=Jd H
   have F:=xZ Y (Jh Ja a1 1 default default (by omega))
   cases H
  refine xE0 ?_
  refine Jp (Xo a1 a2 a3 a4 a5 a6 a7 a8 a9 a10 a11 x2 x20) (fun s=>[(0,.c (.pt 1 0)),(1,.c (.os 4 14 0 s.1)),(2,.c (.d (.sl 11 (List.map Ja a1)))),(8,cS x2),(10,.c (.pa 4 14 ((IntKind.i64.wrap (((x20:Nat):Int)-1)).toNat) 0)),(81,cB s.2)]) (fun s=>[[.d (.sl 2 (List.map Jf a2)),kI a3,kI a4,kI a5,.d (.sl 5 (List.map Je a6)),.sl 1 (List.map dI a7) 6,.os 5 11 0 a11.length,.sl 1 (List.map dI a8) 7,kI a9],[],[],[.arr 14 (List.map Jj a10)],[.arr 11 (List.map Ja a11)]]) [3,3] r ?_ ?_
  ·rcases xB Y G H with⟨p,H,F,G,q⟩|⟨p,H,F,G,q⟩
   ·refine xR ?_
    exact Jb H (xK ⟨[1,2,3,4,5],[6,7]⟩)
   refine xR ?_
   exact Jb H (xK ⟨[1,2,3,4,5],[6,7]⟩)
  rintro ⟨x22,x23⟩ H
  rw[Xo]at H
  rcases xB Y G H with⟨p,H,F,G,q⟩|⟨p,H,F,G,q⟩
  ·refine xT ?_
   obtain⟨g,H⟩:=Jd H
   have F:=xZ Y (Jh Ja a1 2 default default (by omega))
   cases H
  refine xE ?_
  obtain⟨g,H⟩:=Jd H
  have F:=xZ Y (Jh Jj a10 ((IntKind.i64.wrap (((x20:Nat):Int)-1)).toNat) default default (by omega))
  have F:=xZ F (JdT Jj a10 ((IntKind.i64.wrap (((x20:Nat):Int)-1)).toNat))
  have F:=xZ F (Jd1 Jj a10 (show(IntKind.i64.wrap (((x20:Nat):Int)-1)).toNat<a10.length by omega))
  have F:=xZ F (Jd7 Jj a10 ((IntKind.i64.wrap (((x20:Nat):Int)-1)).toNat))
  refine xR0 ?_
  refine Jl ?_
  refine Jp (Xn x2 x20) (fun s=>[(1,.c (.os 4 14 0 s.1)),(8,cS x2),(10,.c (.pa 4 14 ((IntKind.i64.wrap (((x20:Nat):Int)-1)).toNat) 0))]) (fun s=>[[.d (.sl 2 (List.map Jf a2)),kI s.2.1,kI a4,kI a5,.d (.sl 5 (List.map Je a6)),.sl 1 (List.map dI a7) 6,.os 5 11 0 a11.length,.sl 1 (List.map dI a8) 7,kI a9],[],[],[.arr 14 (List.map Jj s.2.2)],[.arr 11 (List.map Ja a11)]]) [3,3] r ?_ ?_
  ·refine Jp (Vb x2 x20) (fun s=>[(1,.c (.os 4 14 0 s.1)),(8,cS x2),(10,.c (.pa 4 14 ((IntKind.i64.wrap (((x20:Nat):Int)-1)).toNat) 0)),(108,cB s.2.1)]) (fun s=>[[.d (.sl 2 (List.map Jf a2)),kI s.2.2.1,kI a4,kI a5,.d (.sl 5 (List.map Je a6)),.sl 1 (List.map dI a7) 6,.os 5 11 0 a11.length,.sl 1 (List.map dI a8) 7,kI a9],[],[],[.arr 14 (List.map Jj s.2.2.2)],[.arr 11 (List.map Ja a11)]]) [3,3] r ?_ ?_
   ·obtain⟨g,H⟩:=Jd H
    have F:=xZ Y (Jh Jj a10 ((IntKind.i64.wrap (((x20:Nat):Int)-1)).toNat) default default (by omega))
    have F:=xZ F (JdT Jj a10 ((IntKind.i64.wrap (((x20:Nat):Int)-1)).toNat))
    have F:=xZ F (Jd1 Jj a10 (show(IntKind.i64.wrap (((x20:Nat):Int)-1)).toNat<a10.length by omega))
    have F:=xZ F (Jd7 Jj a10 ((IntKind.i64.wrap (((x20:Nat):Int)-1)).toNat))
    rcases xB F G H with⟨p,H,F,G,q⟩|⟨p,H,F,G,q⟩
    ·rcases xB F G H with⟨p,H,F,G,q⟩|⟨p,H,F,G,q⟩
     ·refine xR ?_
      exact Jb H (xK ⟨[1,2,3,4,5],[6,7]⟩)
     rcases Zy H with⟨r3,hr4,H⟩|⟨e2,hr5,H⟩
     ·have F:=F
      refine xQ ?_
      refine xs 11 ?_
      refine xc ⟨[1,5],[6,7]⟩ (tabG 1 (cg10 hr4)) ?_
      refine xs 2 ?_
      refine xl ?_
      refine xS ?_
      exact Jb H (xK ⟨[1,2,3,4,5],[10,11]⟩)
     have F:=F
     refine xQp [95,96,97,98,99,100,101,102,103,104,105,106,107,108] ?_
     refine xs 11 ?_
     refine xp ⟨[1,5],[6,7]⟩ (tabG 1 (cg10 hr5)) ?_
     replace H:=oI H
     refine xS ?_
     subst H
     refine xpD [] ?_
     exact xOv ⟨[1,2,3,5],[10,11]⟩
    refine xR ?_
    exact Jb H (xK ⟨[1,2,3,4,5],[6,7]⟩)
   rintro ⟨x27,x28,x29,x30⟩ H
   rw[Vb]at H
   rcases xB Y G H with⟨p,H,F,G,q⟩|⟨p,H,F,G,q⟩
   ·refine xT ?_
    obtain⟨g,H⟩:=Jd H
    have F:=xZ Y (Jh Jj x30 ((IntKind.i64.wrap (((x20:Nat):Int)-1)).toNat) default default (by omega))
    have F:=xZ F (JdT Jj x30 ((IntKind.i64.wrap (((x20:Nat):Int)-1)).toNat))
    have F:=xZ F (Jd1 Jj x30 (show(IntKind.i64.wrap (((x20:Nat):Int)-1)).toNat<x30.length by omega))
    have F:=xZ F (Jd7 Jj x30 ((IntKind.i64.wrap (((x20:Nat):Int)-1)).toNat))
    obtain⟨g,H⟩:=Jd H
    have F:=xZ F (Jh Jj x30 ((IntKind.i64.wrap (((x20:Nat):Int)-1)).toNat) default default (by omega))
    have F:=xZ F (JdT Jj x30 ((IntKind.i64.wrap (((x20:Nat):Int)-1)).toNat))
    have F:=xZ F (Jd1 Jj x30 (show(IntKind.i64.wrap (((x20:Nat):Int)-1)).toNat<x30.length by omega))
    have F:=xZ F (Jd7 Jj x30 ((IntKind.i64.wrap (((x20:Nat):Int)-1)).toNat))
    refine xR ?_
    exact Jb H (xK ⟨[1,2,3,4,5],[6,7]⟩)
   refine xE ?_
   exact Jb H (xK ⟨[1,2,3,4,5],[6,7]⟩)
  rintro ⟨x24,x25,x26⟩ H
  rw[Xn]at H
  refine xS ?_
  obtain⟨g,H⟩:=Jd H
  have F:=xZ Y (Jh Jj x26 ((IntKind.i64.wrap (((x20:Nat):Int)-1)).toNat) default default (by omega))
  have F:=xZ F (JdT Jj x26 ((IntKind.i64.wrap (((x20:Nat):Int)-1)).toNat))
  have F:=xZ F (Jd1 Jj x26 (show(IntKind.i64.wrap (((x20:Nat):Int)-1)).toNat<x26.length by omega))
  have F:=xZ F (Jd7 Jj x26 ((IntKind.i64.wrap (((x20:Nat):Int)-1)).toNat))
  refine xR ?_
  replace H:=oI H
  refine xr ?_
  subst H
  refine xrD [] ?_
  exact xO ⟨[1,2,3,4,5],[6,7]⟩
 refine xE ?_
 replace H:=oI H
 refine xr ?_
 subst H
 refine xrD [] ?_
 exact xO ⟨[1,2,3,4,5],[6,7]⟩
theorem Jg4:Jc Tryz.prog 37∧(∀ g,XJ g→Jm Tryz.prog 37 g)∧(false=true→∀ g,XJ g→∃ val bs ts,g.out=.ret val bs ts) :=
 ⟨JBI,JgP,nofun⟩
noncomputable def Ja5:Bool→Option Bool
 | x1=>some x1
noncomputable def Jc1(a0:List UInt8):Option Bool :=
 if(eqS a0 [95,95,76,73,78,69,95,95])=true then Ja5 true else if(eqS a0 [95,95,70,73,76,69,95,95])=true then Ja5 true else Ja5 (eqS a0 [100,101,102,105,110,101,100])
noncomputable def JcK:PF:=PF.of (E1 dS) (fun a=>Jc1 a) dB
theorem JgZ:JF Tryz.prog 58 JcK:=by
 refine xF mixed [] [] trivial trivial Tryz.func58 ?_
 rintro a0 out H
 have G:=True.intro
 have Y:=Tryz.results58
 simp only[Jc1]at H
 refine xS ?_
 refine xr0 ?_
 refine Jl ?_
 refine Jp Ja5 (fun s=>[(2,cB s)]) (fun s=>[]) [] out ?_ ?_
 ·rcases xB Y G H with⟨p,H,F,G,q⟩|⟨p,H,F,G,q⟩
  ·refine xR ?_
   exact Jb H (xK ⟨[],[]⟩)
  rcases xB F G H with⟨p,H,F,G,q⟩|⟨p,H,F,G,q⟩
  ·refine xR ?_
   exact Jb H (xK ⟨[],[]⟩)
  refine xR ?_
  exact Jb H (xK ⟨[],[]⟩)
 rintro x1 H
 rw[Ja5]at H
 replace H:=oI H
 refine xS ?_
 subst H
 exact xN
theorem JhF(a0:List UInt8)(r:Bool)(H:Jc1 a0=some r):PC JcK [dS a0] (dB r):=PF.c (a:=a0) H
noncomputable def JeK(x1 x2:Int):Unit→Option YN
 | ()=>some (.inl (x1,IntKind.i64.wrap (x2+1)))
noncomputable def JeF(x1 x2:Int):Bool→Option YN
 | x3=>if x3=true then none else JeK x1 x2 ()
noncomputable def Jc3(x1 x2:Int):Bool→Option YN
 | x16=>if x16=true then none else JeK x1 x2 ()
noncomputable def Jc0(a1:Bool)(a4:List Token)(x1 x2:Int):Yf→Option YN
 | (x4,x5,x6,x7,x8,x9,x10,x11,x12,x13,x14,x15)=>if x4=true then none else if(eqS x6 [35])=true then if a1=true then if(eqI x2 (IntKind.i64.wrap (((a4.length:Nat):Int)-1)))=true then Jc3 x1 x2 true else if(0:Int)≤(IntKind.i64.wrap (x2+1))∧(IntKind.i64.wrap (x2+1)).toNat<a4.length then if(IntKind.i64.wrap (x2+1)).toNat<a4.length then none else none else none else Jc3 x1 x2 false else Jc3 x1 x2 false
noncomputable def JgG(a1 a3:Bool)(a4:List Token):(Int×Int)→Option YN
 | (x1,x2)=>if(ltI x2 x1)=true then if(0:Int)≤x2∧x2.toNat<a4.length then if x2.toNat<a4.length then if(!eqI ((a4.getD x2.toNat default).Kind) 5)=true then if(eqS ((a4.getD x2.toNat default).Text) [95,95,86,65,95,65,82,71,83,95,95])=true then JeF x1 x2 (!a3) else JeF x1 x2 false else if(eqS ((a4.getD x2.toNat default).Text) [35,35])=true then if(eqI x2 0)=true then Jc0 a1 a4 x1 x2 (true,(a4.getD x2.toNat default).Kind,(a4.getD x2.toNat default).Text,(a4.getD x2.toNat default).Space,(a4.getD x2.toNat default).First,(a4.getD x2.toNat default).File,(a4.getD x2.toNat default).At,(a4.getD x2.toNat default).End,(a4.getD x2.toNat default).Line,(a4.getD x2.toNat default).Hide,(a4.getD x2.toNat default).Calls,(a4.getD x2.toNat default).Made) else Jc0 a1 a4 x1 x2 (eqI x2 (IntKind.i64.wrap (((a4.length:Nat):Int)-1)),(a4.getD x2.toNat default).Kind,(a4.getD x2.toNat default).Text,(a4.getD x2.toNat default).Space,(a4.getD x2.toNat default).First,(a4.getD x2.toNat default).File,(a4.getD x2.toNat default).At,(a4.getD x2.toNat default).End,(a4.getD x2.toNat default).Line,(a4.getD x2.toNat default).Hide,(a4.getD x2.toNat default).Calls,(a4.getD x2.toNat default).Made) else Jc0 a1 a4 x1 x2 (false,(a4.getD x2.toNat default).Kind,(a4.getD x2.toNat default).Text,(a4.getD x2.toNat default).Space,(a4.getD x2.toNat default).First,(a4.getD x2.toNat default).File,(a4.getD x2.toNat default).At,(a4.getD x2.toNat default).End,(a4.getD x2.toNat default).Line,(a4.getD x2.toNat default).Hide,(a4.getD x2.toNat default).Calls,(a4.getD x2.toNat default).Made) else none else none else inrO (some ())
noncomputable def Ji1(a0:List UInt8)(a1:Bool)(a2:List (List UInt8))(a3:Bool)(a4:List Token):Option Unit :=
 Jt (JgG a1 a3 a4) (((a4.length:Nat):Int),0)
def Jfo(a0:List UInt8)(a1:Bool)(a2:List (List UInt8))(a3:Bool)(a4:List Token)(r:Unit):GI :=
 ⟨[.c (.pt 1 0)],[[kS a0,kB a1,.sl 1 (List.map dS a2) 3,kB a3,.os 2 11 0 a4.length],[.arr 11 (List.map Ja a4)]],[9],.ret (.ag [kI 0,kI (-1),kI 0]) [[kS a0,kB a1,.sl 1 (List.map dS a2) 3,kB a3,.os 2 11 0 a4.length],[.arr 11 (List.map Ja a4)]] [9]⟩
def Jfw:GI→Prop:=Sg5 Ji1 Jfo
theorem Jsz:∀ g,Jfw g→Jm Tryz.prog 85 g:=by
 rintro _ ⟨a0,a1,a2,a3,a4,r,H,rfl⟩
 refine xGn mixed [] [] [] trivial trivial trivial Tryz.func85 _ ?_
 have G:=True.intro
 have Y:=xZ y_3 <| xZ y_4 <| xZ y_9 <| xZ y_24 <| xZ y_29 <| xZ y_31 <| xZ y_41 <| xZ y_44 <| xZ y_63 <| xZ Tryz.results85 <| xZ Jk.eq_1 <| xZ Ja.eq_1 <| xZ Je.eq_1 <| xZ J9.eq_1 <| Jfo.eq_1
 dsimp only[Jfo]
 unfold Ji1 at H
 refine xS ?_
 refine xr ?_
 refine xr ?_
 refine JZ (JgG a1 a3 a4) (fun s=>[(0,.c (.pt 1 0)),(2,.c (.pt 3 0)),(8,.c (.os 2 11 0 a4.length)),(9,cI s.1),(10,cI s.2)]) (fun s=>[[kS a0,kB a1,.sl 1 (List.map dS a2) 4,kB a3,.os 2 11 0 a4.length],[.arr 11 (List.map Ja a4)],[kI 0,kI 0,kI 0]]) [9] H (xK ⟨[1,2,4],[3]⟩) ?_
 rintro n1 ⟨x1,x2⟩ o1 H hF1
 rw[JgG]at H
 refine xS ?_
 refine xr ?_
 rcases xB Y G H with⟨p,H,F,G,q⟩|⟨p,H,F,G,q⟩
 ·refine xT0 ?_
  refine Jbd ?_
  refine Jl ?_
  refine Jp (JeK x1 x2) (fun s=>[(0,.c (.pt 1 0)),(2,.c (.pt 3 0)),(8,.c (.os 2 11 0 a4.length)),(9,cI x1),(10,cI x2)]) (fun s=>[[kS a0,kB a1,.sl 1 (List.map dS a2) 4,kB a3,.os 2 11 0 a4.length],[.arr 11 (List.map Ja a4)],[kI 0,kI 0,kI 0]]) [9] o1 ?_ ?_
  ·refine xS ?_
   obtain⟨g,H⟩:=Jd H
   obtain⟨g,H⟩:=Jd H
   have F:=xZ Y (Jh Ja a4 x2.toNat default default (by omega))
   refine xR ?_
   refine xr ?_
   rcases xB Y G H with⟨p,H,F,G,q⟩|⟨p,H,F,G,q⟩
   ·refine xT0 ?_
    refine Vl ?_
    refine Jp (JeF x1 x2) (fun s=>[(0,.c (.pt 1 0)),(2,.c (.pt 3 0)),(3,cI x2),(8,.c (.os 2 11 0 a4.length)),(9,cI x1),(10,cI x2),(27,cB s)]) (fun s=>[[kS a0,kB a1,.sl 1 (List.map dS a2) 4,kB a3,.os 2 11 0 a4.length],[.arr 11 (List.map Ja a4)],[kI 0,kI 0,kI 0]]) [9] o1 ?_ ?_
    ·rcases xB Y G H with⟨p,H,F,G,q⟩|⟨p,H,F,G,q⟩
     ·refine xR ?_
      exact Jb H (xK ⟨[1,2,3],[4]⟩)
     refine xR ?_
     exact Jb H (xK ⟨[1,2,3],[4]⟩)
    rintro x3 H
    rw[JeF]at H
    rcases xB Y G H with⟨p,H,F,G,q⟩|⟨p,H,F,G,q⟩
    ·refine xT ?_
     cases H
    refine xE ?_
    exact Jb H (xK ⟨[1,2,3],[4]⟩)
   refine xE0 ?_
   refine Jbd ?_
   refine Jl ?_
   refine JaS ?_
   refine Jp (Jc0 a1 a4 x1 x2) (fun s=>[(0,.c (.pt 1 0)),(2,.c (.pt 3 0)),(3,cI x2),(4,.c (.pt 4 0)),(8,.c (.os 2 11 0 a4.length)),(9,cI x1),(10,cI x2),(34,cB s.1)]) (fun s=>[[kS a0,kB a1,.sl 1 (List.map dS a2) 5,kB a3,.os 2 11 0 a4.length],[.arr 11 (List.map Ja a4)],[kI 0,kI 0,kI 0],[kI s.2.1,kS s.2.2.1,kB s.2.2.2.1,kB s.2.2.2.2.1,kI s.2.2.2.2.2.1,kI s.2.2.2.2.2.2.1,kI s.2.2.2.2.2.2.2.1,kI s.2.2.2.2.2.2.2.2.1,.d (.sl 1 (List.map dS s.2.2.2.2.2.2.2.2.2.1)),.d (.sl 3 (List.map Jk s.2.2.2.2.2.2.2.2.2.2.1)),kI s.2.2.2.2.2.2.2.2.2.2.2]]) [9] o1 ?_ ?_
   ·rcases xB Y G H with⟨p,H,F,G,q⟩|⟨p,H,F,G,q⟩
    ·rcases xB F G H with⟨p,H,F,G,q⟩|⟨p,H,F,G,q⟩
     ·refine xR ?_
      exact Jb H (xK ⟨[1,2,3,5],[4]⟩)
     refine xR ?_
     exact Jb H (xK ⟨[1,2,3,5],[4]⟩)
    refine xR ?_
    exact Jb H (xK ⟨[1,2,3,5],[4]⟩)
   rintro ⟨x4,x5,x6,x7,x8,x9,x10,x11,x12,x13,x14,x15⟩ H
   rw[Jc0]at H
   rcases xB Y G H with⟨p,H,F,G,q⟩|⟨p,H,F,G,q⟩
   ·refine xT ?_
    cases H
   refine xE0 ?_
   refine Jp (Jc3 x1 x2) (fun s=>[(0,.c (.pt 1 0)),(2,.c (.pt 3 0)),(3,cI x2),(8,.c (.os 2 11 0 a4.length)),(9,cI x1),(10,cI x2),(58,cB s)]) (fun s=>[[kS a0,kB a1,.sl 1 (List.map dS a2) 4,kB a3,.os 2 11 0 a4.length],[.arr 11 (List.map Ja a4)],[kI 0,kI 0,kI 0]]) [9] o1 ?_ ?_
   ·rcases xB Y G H with⟨p,H,F,G,q⟩|⟨p,H,F,G,q⟩
    ·rcases xB F G H with⟨p,H,F,G,q⟩|⟨p,H,F,G,q⟩
     ·rcases xB F G H with⟨p,H,F,G,q⟩|⟨p,H,F,G,q⟩
      ·refine xR ?_
       exact Jb H (xK ⟨[1,2,3],[5]⟩)
      obtain⟨g,H⟩:=Jd H
      obtain⟨g,H⟩:=Jd H
      have F:=xZ F (Jh Ja a4 ((IntKind.i64.wrap (x2+1)).toNat) default default (by omega))
      cases H
     refine xR ?_
     exact Jb H (xK ⟨[1,2,3],[5]⟩)
    refine xR ?_
    exact Jb H (xK ⟨[1,2,3],[5]⟩)
   rintro x16 H
   rw[Jc3]at H
   rcases xB Y G H with⟨p,H,F,G,q⟩|⟨p,H,F,G,q⟩
   ·refine xT ?_
    cases H
   refine xE ?_
   exact Jb H (xK ⟨[1,2,3],[4]⟩)
  rintro ⟨⟩ H
  rw[JeK]at H
  refine xr ?_
  exact JB (JG H hF1) (xK ⟨[1,2,3],[4]⟩)
 replace H:=Js H hF1
 refine xE ?_
 refine xr ?_
 refine xrD [] ?_
 exact xO ⟨[1,2],[4]⟩
theorem Juo:Jc Tryz.prog 85∧(∀ g,Jfw g→Jm Tryz.prog 85 g)∧(true=true→∀ g,Jfw g→∃ val bs ts,g.out=.ret val bs ts) :=
 ⟨JBr,Jsz,fun _=>by rintro _ ⟨_,_,_,_,_,_,_,rfl⟩; exact⟨_,_,_,rfl⟩⟩
noncomputable def Jd9(x5:List Token)(x6 x7:Int)(x8:List Token):(Int×(List UInt8)×Bool×Bool×Int×Int×Int×Int×YO×(List Call)×Int)→Option Yl
 | (x9,x10,x11,x12,x13,x14,x15,x16,x17,x18,x19)=>if(x8.length + [(⟨x9,x10,x11,false,x13,x14,x15,x16,([]:List (List UInt8)),([]:List Call),x19⟩:Token)].length) * 120≤140737488355328 then some (.inl (x5,x6,IntKind.i64.wrap (x7+1),x8++[(⟨x9,x10,x11,false,x13,x14,x15,x16,([]:List (List UInt8)),([]:List Call),x19⟩:Token)])) else none
noncomputable def Jf8(x4:List UInt8):((List Token)×Int×Int×(List Token))→Option Yl
 | (x5,x6,x7,x8)=>if(ltI x7 x6)=true then if(0:Int)≤x7∧x7.toNat<x5.length then if((x5.getD x7.toNat default).Space)=true then Jd9 x5 x6 x7 x8 ((x5.getD x7.toNat default).Kind,(x5.getD x7.toNat default).Text,ltI 0 x7,(x5.getD x7.toNat default).First,(x5.getD x7.toNat default).File,(x5.getD x7.toNat default).At,(x5.getD x7.toNat default).End,(x5.getD x7.toNat default).Line,(x5.getD x7.toNat default).Hide,(x5.getD x7.toNat default).Calls,(x5.getD x7.toNat default).Made) else Jd9 x5 x6 x7 x8 ((x5.getD x7.toNat default).Kind,(x5.getD x7.toNat default).Text,false,(x5.getD x7.toNat default).First,(x5.getD x7.toNat default).File,(x5.getD x7.toNat default).At,(x5.getD x7.toNat default).End,(x5.getD x7.toNat default).Line,(x5.getD x7.toNat default).Hide,(x5.getD x7.toNat default).Calls,(x5.getD x7.toNat default).Made) else none else inrO ((Ji1 x4 false ([]:List (List UInt8)) false x8).bind fun r2=>some ((⟨x4,false,([]:List (List UInt8)),false,x8⟩:Macro),(⟨0,(-1),0⟩:Fault)))
noncomputable def Jcj(a0:List Token):(Bool×(List UInt8))→Option (Macro×Fault)
 | (x3,x4)=>if x3=true then none else if(ltI 60 (IntKind.i64.wrap ((a0.length:Int)-1)))=true then none else if(0:Int)≤1∧1≤(a0.length:Int)∧(a0.length:Int)≤(a0.length:Int) then Jt (Jf8 x4) (List.drop 1 a0,((List.drop 1 a0).length:Int),0,([]:List Token)) else none
noncomputable def JdX(a0:List Token):(Bool×(List UInt8))→Option (Macro×Fault)
 | (x1,x2)=>if x1=true then none else if 0<a0.length then(Jc1 ((a0.getD 0 default).Text)).bind fun r1=>if r1=true then none else if 0<a0.length then if(ltI 1 (a0.length:Int))=true then if 1<a0.length then if(eqS ((a0.getD 1 default).Text) [40])=true then if 1<a0.length then Jcj a0 (!((a0.getD 1 default).Space),(a0.getD 0 default).Text) else none else Jcj a0 (false,(a0.getD 0 default).Text) else none else Jcj a0 (false,(a0.getD 0 default).Text) else none else none
noncomputable def Jgj(a0:List Token):Option (Macro×Fault) :=
 if(eqI (a0.length:Int) 0)=true then JdX a0 (true,[]) else if 0<a0.length then JdX a0 (!eqI ((a0.getD 0 default).Kind) 1,[]) else none
noncomputable def JfU:PF:=PF.of (E1 (dL 11 Ja)) (fun a=>Jgj a) (T2 Je J9)
theorem JoW:JF Tryz.prog 56 JfU:=by
 refine xF mixed [(58,JcK)] [(85,true,Jfw)] ⟨⟨JwB,JgZ⟩,trivial⟩ ⟨Juo,trivial⟩ Tryz.func56 ?_
 rintro a0 out H
 have G:=True.intro
 have Y:=xZ y_3 <| xZ y_4 <| xZ y_9 <| xZ y_24 <| xZ y_29 <| xZ y_31 <| xZ y_41 <| xZ y_42 <| xZ y_44 <| xZ y_63 <| xZ Tryz.results56 <| xZ Jk.eq_1 <| xZ Ja.eq_1 <| xZ Je.eq_1 <| xZ J9.eq_1 <| Jfo.eq_1
 simp only[Jgj]at H
 refine xS ?_
 refine xr ?_
 refine xr0 ?_
 refine Jl ?_
 refine Vl ?_
 refine Jp (JdX a0) (fun s=>[(0,.c (.d (.sl 11 (List.map Ja a0)))),(2,.c (.pt 1 0)),(3,.c (.pt 2 0)),(4,.c (.d (.v (.func (.func 82) #[] #[])))),(21,cB s.1)]) (fun s=>[[kS s.2,kB false,.sl 1 [] 0,kB false,.sl 11 [] 0],[kI 0,kI 0,kI 0]]) [] out ?_ ?_
 ·rcases xB Y G H with⟨p,H,F,G,q⟩|⟨p,H,F,G,q⟩
  ·refine xR ?_
   exact Jb H (xK ⟨[1,2],[]⟩)
  obtain⟨g,H⟩:=Jd H
  have F:=xZ F (Jh Ja a0 0 default default (by omega))
  refine xR ?_
  exact Jb H (xK ⟨[1,2],[]⟩)
 rintro ⟨x1,x2⟩ H
 rw[JdX]at H
 rcases xB Y G H with⟨p,H,F,G,q⟩|⟨p,H,F,G,q⟩
 ·refine xT ?_
  cases H
 refine xE ?_
 obtain⟨g,H⟩:=Jd H
 have F:=xZ Y (Jh Ja a0 0 default default (by omega))
 obtain⟨r1,hr1,H⟩:=Ji H
 have F:=xCf F (JhF ((a0.getD 0 default).Text) r1 hr1)
 refine xR ?_
 rcases xB Y G H with⟨p,H,F,G,q⟩|⟨p,H,F,G,q⟩
 ·refine xT ?_
  cases H
 refine xE ?_
 obtain⟨g,H⟩:=Jd H
 have F:=xZ Y (Jh Ja a0 0 default default (by omega))
 refine xR ?_
 refine xr0 ?_
 refine Jl ?_
 refine Vl ?_
 refine Jp (Jcj a0) (fun s=>[(0,.c (.d (.sl 11 (List.map Ja a0)))),(2,.c (.pt 1 0)),(3,.c (.pt 2 0)),(4,.c (.d (.v (.func (.func 82) #[] #[])))),(5,.c (.pt 3 0)),(6,cI 1),(63,cB s.1)]) (fun s=>[[kS x2,kB false,.sl 1 [] 0,kB false,.sl 11 [] 0],[kI 0,kI 0,kI 0],[kS s.2,kB false,.sl 1 [] 0,kB false,.sl 11 [] 0]]) [] out ?_ ?_
 ·rcases xB Y G H with⟨p,H,F,G,q⟩|⟨p,H,F,G,q⟩
  ·obtain⟨g,H⟩:=Jd H
   have F:=xZ F (Jh Ja a0 1 default default (by omega))
   rcases xB F G H with⟨p,H,F,G,q⟩|⟨p,H,F,G,q⟩
   ·obtain⟨g,H⟩:=Jd H
    have F:=xZ F (Jh Ja a0 1 default default (by omega))
    refine xR ?_
    exact Jb H (xK ⟨[1,2,3],[]⟩)
   refine xR ?_
   exact Jb H (xK ⟨[1,2,3],[]⟩)
  refine xR ?_
  exact Jb H (xK ⟨[1,2,3],[]⟩)
 rintro ⟨x3,x4⟩ H
 rw[Jcj]at H
 rcases xB Y G H with⟨p,H,F,G,q⟩|⟨p,H,F,G,q⟩
 ·refine xT ?_
  refine xr ?_
  cases H
 refine xE ?_
 refine xr ?_
 rcases xB Y G H with⟨p,H,F,G,q⟩|⟨p,H,F,G,q⟩
 ·refine xT ?_
  cases H
 refine xE ?_
 obtain⟨g,H⟩:=Jd H
 refine xr ?_
 refine JZ (Jf8 x4) (fun s=>[(2,.c (.pt 1 0)),(3,.c (.pt 2 0)),(4,.c (.d (.v (.func (.func 82) #[] #[])))),(5,.c (.pt 3 0)),(96,.c (.d (.sl 11 (List.map Ja s.1)))),(97,cI s.2.1),(98,cI s.2.2.1)]) (fun s=>[[kS x2,kB false,.sl 1 [] 0,kB false,.sl 11 [] 0],[kI 0,kI 0,kI 0],[kS x4,kB false,.sl 1 [] 0,kB false,.os 4 11 0 s.2.2.2.length],[.arr 11 (List.map Ja s.2.2.2)]]) [] H (xK ⟨[1,2,3,0],[]⟩) ?_
 rintro n1 ⟨x5,x6,x7,x8⟩ o1 H hF1
 rw[Jf8]at H
 refine xS ?_
 refine xr ?_
 rcases xB Y G H with⟨p,H,F,G,q⟩|⟨p,H,F,G,q⟩
 ·refine xT ?_
  obtain⟨g,H⟩:=Jd H
  have F:=xZ Y (Jh Ja x5 x7.toNat default default (by omega))
  refine xR0 ?_
  refine Jl ?_
  refine Jp (Jd9 x5 x6 x7 x8) (fun s=>[(2,.c (.pt 1 0)),(3,.c (.pt 2 0)),(4,.c (.d (.v (.func (.func 82) #[] #[])))),(5,.c (.pt 3 0)),(10,.c (.pt 4 0)),(96,.c (.d (.sl 11 (List.map Ja x5)))),(97,cI x6),(98,cI x7)]) (fun s=>[[kS x2,kB false,.sl 1 [] 0,kB false,.sl 11 [] 0],[kI 0,kI 0,kI 0],[kS x4,kB false,.sl 1 [] 0,kB false,.os 5 11 0 x8.length],[kI s.1,kS s.2.1,kB s.2.2.1,kB s.2.2.2.1,kI s.2.2.2.2.1,kI s.2.2.2.2.2.1,kI s.2.2.2.2.2.2.1,kI s.2.2.2.2.2.2.2.1,.d (.sl 1 (List.map dS s.2.2.2.2.2.2.2.2.1)),.d (.sl 3 (List.map Jk s.2.2.2.2.2.2.2.2.2.1)),kI s.2.2.2.2.2.2.2.2.2.2],[.arr 11 (List.map Ja x8)]]) [] o1 ?_ ?_
  ·rcases xB Y G H with⟨p,H,F,G,q⟩|⟨p,H,F,G,q⟩
   ·refine xR ?_
    exact Jb H (xK ⟨[1,2,3,5,4],[]⟩)
   refine xR ?_
   exact Jb H (xK ⟨[1,2,3,5,4],[]⟩)
  rintro ⟨x9,x10,x11,x12,x13,x14,x15,x16,x17,x18,x19⟩ H
  rw[Jd9]at H
  refine xS ?_
  refine xr ?_
  obtain⟨g,H⟩:=Jd H
  have F:=xZ Y (JQ KO [(⟨x9,x10,x11,false,x13,x14,x15,x16,([]:List (List UInt8)),([]:List Call),x19⟩:Token)])
  have L:[(⟨x9,x10,x11,false,x13,x14,x15,x16,([]:List (List UInt8)),([]:List Call),x19⟩:Token)].length=1:=rfl
  refine xR ?_
  refine xr ?_
  exact JB (JG H hF1) (xK ⟨[1,2,3,6],[]⟩)
 replace H:=Js H hF1
 refine xE ?_
 obtain⟨r2,hr2,H⟩:=Ji H
 have F:=Y
 refine xQ ?_
 refine xc ⟨[3,4],[0]⟩ (tabG 0 (cg5 hr2)) ?_
 refine xs 2 ?_
 refine xl ?_
 refine xS ?_
 refine xr ?_
 refine xe ?_
 replace H:=oI H
 refine xr ?_
 subst H
 refine xNf 4 11 (List.map Ja x8) [] ?_
 exact xN
theorem Jso(a0:List Token)(r:Macro×Fault)(H:Jgj a0=some r):PC JfU [(dL 11 Ja) a0] (T2 Je J9 r):=PF.c (a:=a0) H
noncomputable def Jfk(a0:List Macro)(a1:Macro):Option ((List Macro)×Int) :=
 (Vz a0 a1.Name).bind fun r1=>if(leI 0 r1)=true then if(0:Int)≤r1∧r1.toNat<a0.length then none else none else if(leI 30 (a0.length:Int))=true then some (([]:List Macro),5) else(JW a0).bind fun r2=>if(a0.length + [a1].length) * 80≤140737488355328 then some (a0++[a1],0) else none
noncomputable def JfC:PF:=PF.of (E2 (dL 5 Je) Je) (fun a=>Jfk a.1 a.2) (T2 (dL 5 Je) dI)
theorem Jn1:JF Tryz.prog 57 JfC:=by
 refine xFl mixed [8] [(86,JcZ)] [(21,true,J7)] ⟨⟨JoN,JgH⟩,trivial⟩ ⟨JO,trivial⟩ Tryz.func57 ?_
 rintro ⟨a0,a1⟩ out H
 have G:=True.intro
 have Y:=xZ y_9 <| xZ y_28 <| xZ y_63 <| xZ Tryz.results57 <| xZ Jk.eq_1 <| xZ Ja.eq_1 <| xZ Je.eq_1 <| Vr.eq_1
 simp only[Jfk]at H
 refine xS ?_
 refine xr ?_
 obtain⟨r1,hr1,H⟩:=Ji H
 have F:=xC Y (Jg3 a0 a1.Name r1 hr1)
 refine xR ?_
 refine xr ?_
 rcases xB Y G H with⟨p,H,F,G,q⟩|⟨p,H,F,G,q⟩
 ·refine xT ?_
  obtain⟨g,H⟩:=Jd H
  have F:=xZ Y (Jh Je a0 r1.toNat default default (by omega))
  cases H
 refine xE ?_
 refine xr ?_
 rcases xB Y G H with⟨p,H,F,G,q⟩|⟨p,H,F,G,q⟩
 ·refine xT ?_
  replace H:=oI H
  refine xr ?_
  subst H
  exact xN
 refine xE ?_
 obtain⟨r2,hr2,H⟩:=Ji H
 have F:=Y
 obtain⟨g,H⟩:=Jd H
 have F:=xZ F (JQ Jo7 [a1])
 have L:[a1].length=1:=rfl
 refine xP [0,2,3,1,4,5,6] [27] ⟨JO,trivial⟩ ?_
 refine xsX 1 ?_
 refine xaX ?_
 refine xsX 1 ?_
 refine xcX ⟨[],[]⟩ (tabG 0 (cg1 hr2)) ?_
 refine xbX ?_
 refine xsX 2 ?_
 refine xlX ?_
 replace H:=oI H
 refine xS ?_
 subst H
 refine xNf 3 5 (List.map Je (a0++[a1])) [] ?_
 exact xN
theorem Joy(a0:List Macro)(a1:Macro)(r:(List Macro)×Int)(H:Jfk a0 a1=some r):PC JfC [(dL 5 Je) a0,Je a1] (T2 (dL 5 Je) dI r):=PF.c (a:=(a0,a1)) H
noncomputable def Jar(a0:List Int)(a1:Int):(Int×Int)→Option YP
 | (x1,x2)=>if(ltI x2 x1)=true then if(0:Int)≤x2∧x2.toNat<a0.length then if(eqI a1 (a0.getD x2.toNat default))=true then inrO (some x2) else some (.inl (x1,IntKind.i64.wrap (x2+1))) else none else inrO (some (-1))
noncomputable def Zl(a0:List Int)(a1:Int):Option Int :=
 Jt (Jar a0 a1) ((a0.length:Int),0)
noncomputable def JaA:PF:=PF.of (E2 (dL 1 dI) dI) (fun a=>Zl a.1 a.2) dI
theorem JgT:JF Tryz.prog 116 JaA:=by
 refine xF mixed [] [] trivial trivial Tryz.func116 ?_
 rintro ⟨a0,a1⟩ out H
 have G:=True.intro
 have Y:=xZ y_3 <| xZ y_25 <| Tryz.results116
 simp only[Zl]at H
 refine xS ?_
 refine xr ?_
 refine xr ?_
 refine JZ (Jar a0 a1) (fun s=>[(0,.c (.d (.sl 1 (List.map dI a0)))),(1,cI a1),(7,cI s.1),(8,cI s.2)]) (fun s=>[]) [] H (xK ⟨[],[]⟩) ?_
 rintro n1 ⟨x1,x2⟩ o1 H hF1
 rw[Jar]at H
 refine xS ?_
 refine xr ?_
 rcases xB Y G H with⟨p,H,F,G,q⟩|⟨p,H,F,G,q⟩
 ·refine xT ?_
  refine xr ?_
  obtain⟨g,H⟩:=Jd H
  have F:=xZ Y (Jh dI a0 x2.toNat default default (by omega))
  refine xR ?_
  rcases xB Y G H with⟨p,H,F,G,q⟩|⟨p,H,F,G,q⟩
  ·refine xT ?_
   replace H:=Js H hF1
   replace H:=oI H
   refine xr ?_
   subst H
   exact xN
  refine xE ?_
  refine xr ?_
  exact JB (JG H hF1) (xK ⟨[],[]⟩)
 replace H:=Js H hF1
 refine xE ?_
 replace H:=oI H
 refine xr ?_
 subst H
 exact xN
theorem Jg1(a0:List Int)(a1 r:Int)(H:Zl a0 a1=some r):PC JaA [(dL 1 dI) a0,dI a1] (dI r):=PF.c (a:=(a0,a1)) H
noncomputable def Xp(a0:List Int)(a1:Int):Option Bool :=
 (Zl a0 a1).bind fun r1=>some (leI 0 r1)
noncomputable def Ze:PF:=PF.of (E2 (dL 1 dI) dI) (fun a=>Xp a.1 a.2) dB
theorem Jga:JF Tryz.prog 91 Ze:=by
 refine xF mixed [(116,JaA)] [] ⟨⟨JAy,JgT⟩,trivial⟩ trivial Tryz.func91 ?_
 rintro ⟨a0,a1⟩ out H
 have G:=True.intro
 have Y:=Tryz.results91
 simp only[Xp]at H
 refine xS ?_
 refine xr ?_
 obtain⟨r1,hr1,H⟩:=Ji H
 have F:=xC Y (Jg1 a0 a1 r1 hr1)
 replace H:=oI H
 refine xR ?_
 subst H
 exact xN
theorem Jgs(a0:List Int)(a1:Int)(r:Bool)(H:Xp a0 a1=some r):PC Ze [(dL 1 dI) a0,dI a1] (dB r):=PF.c (a:=(a0,a1)) H
def JjU(a0:Int)(a1:List Source)(a2 a3 a4:Int)(a5:List Macro)(a6 a7:List Int)(a8:Int)(a9:List Token):GR Yi Yk→GOut
 | .ok r=>.ret (.tu []) [[.d (.sl 2 (List.map Jf a1)),kI r.1,kI a3,kI a4,.d (.sl 5 (List.map Je r.2.1)),.sl 1 (List.map dI r.2.2.1) 4,.os 3 11 0 r.2.2.2.2.2.length,.sl 1 (List.map dI r.2.2.2.1) 5,kI r.2.2.2.2.1],[],[.arr 11 (List.map Ja r.2.2.2.2.2)]] [3,3]
 | .er r=>.pan (.iface 78 (.agg ⟨[.int .i64 r.1,.int .i64 r.2.1,.int .i64 r.2.2.1]⟩)) [[.d (.sl 2 (List.map Jf a1)),kI r.2.2.2.1,kI a3,kI a4,.d (.sl 5 (List.map Je r.2.2.2.2.1)),.sl 1 (List.map dI r.2.2.2.2.2.1) 4,.os 3 11 0 r.2.2.2.2.2.2.2.2.length,.sl 1 (List.map dI r.2.2.2.2.2.2.1) 5,kI r.2.2.2.2.2.2.2.1],[],[.arr 11 (List.map Ja r.2.2.2.2.2.2.2.2)]] [3,3]
def X5(a0:Int)(a1:List Source)(a2 a3 a4:Int)(a5:List Macro)(a6 a7:List Int)(a8:Int)(a9:List Token)(r:GR Yi Yk):GI :=
 ⟨[.c (.pt 1 0),cI a0],[[.d (.sl 2 (List.map Jf a1)),kI a2,kI a3,kI a4,.d (.sl 5 (List.map Je a5)),.sl 1 (List.map dI a6) 3,.os 2 11 0 a9.length,.sl 1 (List.map dI a7) 4,kI a8],[.arr 11 (List.map Ja a9)]],[3,3],JjU a0 a1 a2 a3 a4 a5 a6 a7 a8 a9 r⟩
def KY(q:Int→(List Source)→Int→Int→Int→(List Macro)→(List Int)→(List Int)→Int→(List Token)→Option Yd):GI→Prop:=Sg10 q X5
def JiB(a0:List Token)(a1:List Source)(a2 a3 a4:Int)(a5:List Macro)(a6 a7:List Int)(a8:Int)(a9:List Token):GR Yi Yk→GOut
 | .ok r=>.ret (.tu []) [[.d (.sl 2 (List.map Jf a1)),kI r.1,kI a3,kI a4,.d (.sl 5 (List.map Je r.2.1)),.sl 1 (List.map dI r.2.2.1) 4,.os 3 11 0 r.2.2.2.2.2.length,.sl 1 (List.map dI r.2.2.2.1) 5,kI r.2.2.2.2.1],[],[.arr 11 (List.map Ja r.2.2.2.2.2)]] [3,3]
 | .er r=>.pan (.iface 78 (.agg ⟨[.int .i64 r.1,.int .i64 r.2.1,.int .i64 r.2.2.1]⟩)) [[.d (.sl 2 (List.map Jf a1)),kI r.2.2.2.1,kI a3,kI a4,.d (.sl 5 (List.map Je r.2.2.2.2.1)),.sl 1 (List.map dI r.2.2.2.2.2.1) 4,.os 3 11 0 r.2.2.2.2.2.2.2.2.length,.sl 1 (List.map dI r.2.2.2.2.2.2.1) 5,kI r.2.2.2.2.2.2.2.1],[],[.arr 11 (List.map Ja r.2.2.2.2.2.2.2.2)]] [3,3]
def JaK(a0:List Token)(a1:List Source)(a2 a3 a4:Int)(a5:List Macro)(a6 a7:List Int)(a8:Int)(a9:List Token)(r:GR Yi Yk):GI :=
 ⟨[.c (.pt 1 0),.c (.d (.sl 11 (List.map Ja a0)))],[[.d (.sl 2 (List.map Jf a1)),kI a2,kI a3,kI a4,.d (.sl 5 (List.map Je a5)),.sl 1 (List.map dI a6) 3,.os 2 11 0 a9.length,.sl 1 (List.map dI a7) 4,kI a8],[.arr 11 (List.map Ja a9)]],[3,3],JiB a0 a1 a2 a3 a4 a5 a6 a7 a8 a9 r⟩
def Vh(q:(List Token)→(List Source)→Int→Int→Int→(List Macro)→(List Int)→(List Int)→Int→(List Token)→Option Yd):GI→Prop:=Sg10 q JaK
def JhS(a0:List Token)(a1:List Source)(a2 a3 a4:Int)(a5:List Macro)(a6 a7:List Int)(a8:Int)(a9:List Token):GR Yi Yk→GOut
 | .ok r=>.ret (.tu []) [[.d (.sl 2 (List.map Jf a1)),kI r.1,kI a3,kI a4,.d (.sl 5 (List.map Je r.2.1)),.sl 1 (List.map dI r.2.2.1) 4,.os 3 11 0 r.2.2.2.2.2.length,.sl 1 (List.map dI r.2.2.2.1) 5,kI r.2.2.2.2.1],[],[.arr 11 (List.map Ja r.2.2.2.2.2)]] [3,3]
 | .er r=>.pan (.iface 78 (.agg ⟨[.int .i64 r.1,.int .i64 r.2.1,.int .i64 r.2.2.1]⟩)) [[.d (.sl 2 (List.map Jf a1)),kI r.2.2.2.1,kI a3,kI a4,.d (.sl 5 (List.map Je r.2.2.2.2.1)),.sl 1 (List.map dI r.2.2.2.2.2.1) 4,.os 3 11 0 r.2.2.2.2.2.2.2.2.length,.sl 1 (List.map dI r.2.2.2.2.2.2.1) 5,kI r.2.2.2.2.2.2.2.1],[],[.arr 11 (List.map Ja r.2.2.2.2.2.2.2.2)]] [3,3]
def Zr(a0:List Token)(a1:List Source)(a2 a3 a4:Int)(a5:List Macro)(a6 a7:List Int)(a8:Int)(a9:List Token)(r:GR Yi Yk):GI :=
 ⟨[.c (.pt 1 0),.c (.d (.sl 11 (List.map Ja a0)))],[[.d (.sl 2 (List.map Jf a1)),kI a2,kI a3,kI a4,.d (.sl 5 (List.map Je a5)),.sl 1 (List.map dI a6) 3,.os 2 11 0 a9.length,.sl 1 (List.map dI a7) 4,kI a8],[.arr 11 (List.map Ja a9)]],[3,3],JhS a0 a1 a2 a3 a4 a5 a6 a7 a8 a9 r⟩
def KV(q:(List Token)→(List Source)→Int→Int→Int→(List Macro)→(List Int)→(List Int)→Int→(List Token)→Option Yd):GI→Prop:=Sg10 q Zr
noncomputable def Ky(x2 x3:Int):(Nat×Int×(List Macro)×(List Int)×(List Int)×Int×YR×(List Token)×(List Token))→Option Ya
 | (x12,x13,x14,x15,x16,x17,x18,x19,x20)=>some (.inl (x12,x2,IntKind.i64.wrap (x3+1),x13,x14,x15,x16,x17,x18,x19,x20))
noncomputable def VB(x2 x3 x4:Int)(x5:List Macro)(x6 x7:List Int)(x8:Int)(x9:List drive_group)(x11:List Token):YK→Option Ya
 | (x24,x25)=>Ky x2 x3 (x24,x4,x5,x6,x7,x8,x9,x25,x11)
noncomputable def Jax(q2:(List Token)→(List Source)→Int→Int→Int→(List Macro)→(List Int)→(List Int)→Int→(List Token)→Option Yd)(a1:List Source)(a3 a4 x2 x3:Int)(x5:List Macro)(x6 x7:List Int)(x8:Int)(x22:List Token)(r5:YI)(r6:Yw):(Nat×Bool)→Option Ya
 | (x26,x27)=>if x27=true then grB (q2 x22 a1 r6.2.2.1 a3 a4 x5 x6 x7 x8 r5.2) (fun r7=>Ky x2 x3 (x26,r7.1,r7.2.1,r7.2.2.1,r7.2.2.2.1,r7.2.2.2.2.1,r6.2.2.2,([]:List Token),r7.2.2.2.2.2)) (fun e4=>inrO (some (.er (e4.1,e4.2.1,e4.2.2.1,e4.2.2.2.1,e4.2.2.2.2.1,e4.2.2.2.2.2.1,e4.2.2.2.2.2.2.1,e4.2.2.2.2.2.2.2.1,e4.2.2.2.2.2.2.2.2)))) else Ky x2 x3 (x26,r6.2.2.1,x5,x6,x7,x8,r6.2.2.2,([]:List Token),r5.2)
noncomputable def Xu(q2:(List Token)→(List Source)→Int→Int→Int→(List Macro)→(List Int)→(List Int)→Int→(List Token)→Option Yd)(a1:List Source)(a3 a4 x2 x3 x4:Int)(x5:List Macro)(x6 x7:List Int)(x8:Int)(x9:List drive_group)(x10 x11:List Token):(Nat×(List Token)×Bool)→Option Ya
 | (x21,x22,x23)=>if x23=true then(Xf x21 x9).bind fun r4=>if r4=true then if(x10.length+x22.length) * 120≤140737488355328 then VB x2 x3 x4 x5 x6 x7 x8 x9 x11 (x21,x10++x22) else none else VB x2 x3 x4 x5 x6 x7 x8 x9 x11 (x21,x10) else grB (Kj x10 a1 x4 a3 a4 x5 x6 x7 x8 x11) (fun r5=>if(eqI (x22.length:Int) 1)=true then Ky x2 x3 (x21,r5.1,x5,x6,x7,x8,x9,([]:List Token),r5.2) else grB (JbY x21 x22 a1 r5.1 a3 a4 x5 x6 x7 x8 x9 r5.2) (fun r6=>if(!r6.2.1)=true then(Xf r6.1 r6.2.2.2).bind fun r8=>Jax q2 a1 a3 a4 x2 x3 x5 x6 x7 x8 x22 r5 r6 (r6.1,r8) else Jax q2 a1 a3 a4 x2 x3 x5 x6 x7 x8 x22 r5 r6 (r6.1,false)) (fun e3=>inrO (some (.er (e3.1,e3.2.1,e3.2.2.1,e3.2.2.2,x5,x6,x7,x8,r5.2))))) (fun e2=>inrO (some (.er (e2.1,e2.2.1,e2.2.2.1,e2.2.2.2.1,x5,x6,x7,x8,e2.2.2.2.2))))
noncomputable def JD(q2:(List Token)→(List Source)→Int→Int→Int→(List Macro)→(List Int)→(List Int)→Int→(List Token)→Option Yd)(a1:List Source)(a3 a4:Int)(r3:YQ):(Nat×Int×Int×Int×(List Macro)×(List Int)×(List Int)×Int×YR×(List Token)×(List Token))→Option Ya
 | (x1,x2,x3,x4,x5,x6,x7,x8,x9,x10,x11)=>if(ltI x3 x2)=true then if(0:Int)≤x3∧x3.toNat<r3.length then if 0<(r3.getD x3.toNat default).length then if(!eqS (((r3.getD x3.toNat default).getD 0 default).Text) [35])=true then Xu q2 a1 a3 a4 x2 x3 x4 x5 x6 x7 x8 x9 x10 x11 (x1,(r3.getD x3.toNat default),true) else if 0<(r3.getD x3.toNat default).length then Xu q2 a1 a3 a4 x2 x3 x4 x5 x6 x7 x8 x9 x10 x11 (x1,(r3.getD x3.toNat default),!eqI (((r3.getD x3.toNat default).getD 0 default).Kind) 5) else none else none else none else inrO (grB (Kj x10 a1 x4 a3 a4 x5 x6 x7 x8 x11) (fun r9=>if(ltI 0 ((x1:Nat):Int))=true then if x1≤x9.length then if(0:Int)≤(IntKind.i64.wrap (((x1:Nat):Int)-1))∧(IntKind.i64.wrap (((x1:Nat):Int)-1)).toNat<(List.take x1 x9).length then none else none else none else some (.ok (r9.1,x5,x6,x7,x8,r9.2))) (fun e5=>some (.er (e5.1,e5.2.1,e5.2.2.1,e5.2.2.2.1,x5,x6,x7,x8,e5.2.2.2.2))))
noncomputable def K9(q1:Int→(List Source)→Int→Int→Int→(List Macro)→(List Int)→(List Int)→Int→(List Token)→Option Yd)(q2 q3:(List Token)→(List Source)→Int→Int→Int→(List Macro)→(List Int)→(List Int)→Int→(List Token)→Option Yd)(a0:Int)(a1:List Source)(a2 a3 a4:Int)(a5:List Macro)(a6 a7:List Int)(a8:Int)(a9:List Token):Option Yd :=
 if(a7.length + [a0].length) * 8≤140737488355328 then if(0:Int)≤a0∧a0.toNat<a1.length then(KG a0 ((a1.getD a0.toNat default).Text)).bind fun r1=>grB (JaF r1.2) (fun r2=>(Jcx r1.1).bind fun r3=>Jt (JD q2 a1 a3 a4 r3) (0,(r3.length:Int),0,a2,a5,a6,a7++[a0],a8,([]:List drive_group),([]:List Token),a9)) (fun e1=>some (.er (r1.2.Err,r1.2.File,r1.2.At,a2,a5,a6,a7++[a0],a8,a9))) else none else none
theorem Jiu(q1:Int→(List Source)→Int→Int→Int→(List Macro)→(List Int)→(List Int)→Int→(List Token)→Option Yd)(q2 q3:(List Token)→(List Source)→Int→Int→Int→(List Macro)→(List Int)→(List Int)→Int→(List Token)→Option Yd)(kq1:Kok Tryz.prog 24 false (KY q1))(kq2:Kok Tryz.prog 38 false (Vh q2))(kq3:Kok Tryz.prog 60 false (KV q3)):∀ g,KY (K9 q1 q2 q3) g→Jm Tryz.prog 24 g:=by
 rintro _ ⟨a0,a1,a2,a3,a4,a5,a6,a7,a8,a9,r,H,rfl⟩
 refine xGn mixed [(32,JgF),(34,Jhl)] [(33,false,Jba),(35,true,Ja9),(36,false,Jas),(37,false,XJ),(38,false,(Vh q2))] [] ⟨⟨JBE,JsB⟩,⟨JCa,Jty⟩,trivial⟩ ⟨Ja0,Jhn,JiV,Jg4,kq2,trivial⟩ trivial Tryz.func24 _ ?_
 have G:=True.intro
 have Y:=xZ y_3 <| xZ y_9 <| xZ y_24 <| xZ y_25 <| xZ y_27 <| xZ y_31 <| xZ y_35 <| xZ y_37 <| xZ y_44 <| xZ y_65 <| xZ y_80 <| xZ y_81 <| xZ y_90 <| xZ Tryz.results24 <| xZ Jf.eq_1 <| xZ Jk.eq_1 <| xZ Ja.eq_1 <| xZ Je.eq_1 <| xZ Kw.eq_1 <| xZ J9.eq_1 <| xZ Jj.eq_1 <| xZ Ja3.eq_1 <| xZ Ja2.eq_1 <| xZ JaC.eq_1 <| xZ XD.eq_1 <| xZ JaK.eq_1 <| X5.eq_1
 dsimp only[X5]
 simp only[K9]at H
 refine xS ?_
 refine xrn 2 1 ?_
 obtain⟨g,H⟩:=Jd H
 have F:=xZ Y (JQ Jno [a0])
 refine xR ?_
 obtain⟨g,H⟩:=Jd H
 have F:=xZ Y (Jh Jf a1 a0.toNat default default (by omega))
 obtain⟨r1,hr1,H⟩:=Ji H
 have F:=xCf F (JuR a0 ((a1.getD a0.toNat default).Text) r1 hr1)
 refine xR ?_
 rcases Zy H with⟨r2,hr2,H⟩|⟨e1,hr3,H⟩
 ·have F:=Y
  refine xQ ?_
  refine xs 1 ?_
  refine xc ⟨[],[]⟩ (tabG 0 (cg1 hr2)) ?_
  refine xl ?_
  refine xS ?_
  refine xr ?_
  refine xr ?_
  obtain⟨r3,hr4,H⟩:=Ji H
  have F:=xC Y (Ju1 r1.1 r3 hr4)
  refine xR ?_
  refine JZ (JD q2 a1 a3 a4 r3) (fun s=>[(0,.c (.pt 1 0)),(6,.c (.os 3 14 0 s.1)),(7,.c (.os 4 11 0 s.2.2.2.2.2.2.2.2.2.1.length)),(40,.c (.d (.sl 1 (List.map (dL 11 Ja) r3)))),(41,cI s.2.1),(42,cI s.2.2.1)]) (fun s=>[[.d (.sl 2 (List.map Jf a1)),kI s.2.2.2.1,kI a3,kI a4,.d (.sl 5 (List.map Je s.2.2.2.2.1)),.sl 1 (List.map dI s.2.2.2.2.2.1) 6,.os 5 11 0 s.2.2.2.2.2.2.2.2.2.2.length,.sl 1 (List.map dI s.2.2.2.2.2.2.1) 7,kI s.2.2.2.2.2.2.2.1],[],[.arr 14 (List.map Jj s.2.2.2.2.2.2.2.2.1)],[.arr 11 (List.map Ja s.2.2.2.2.2.2.2.2.2.1)],[.arr 11 (List.map Ja s.2.2.2.2.2.2.2.2.2.2)]]) [3,3] H (xK ⟨[1,2,0,0,5],[3,6]⟩) ?_
  rintro n1 ⟨x1,x2,x3,x4,x5,x6,x7,x8,x9,x10,x11⟩ o1 H hF1
  rw[JD]at H
  refine xS ?_
  refine xr ?_
  rcases xB Y G H with⟨p,H,F,G,q⟩|⟨p,H,F,G,q⟩
  ·refine xT0 ?_
   refine Jbd ?_
   refine Jl ?_
   refine Jp (Ky x2 x3) (fun s=>[(0,.c (.pt 1 0)),(6,.c (.os 3 14 0 s.1)),(7,.c (.os 4 11 0 s.2.2.2.2.2.2.2.1.length)),(40,.c (.d (.sl 1 (List.map (dL 11 Ja) r3)))),(41,cI x2),(42,cI x3)]) (fun s=>[[.d (.sl 2 (List.map Jf a1)),kI s.2.1,kI a3,kI a4,.d (.sl 5 (List.map Je s.2.2.1)),.sl 1 (List.map dI s.2.2.2.1) 6,.os 5 11 0 s.2.2.2.2.2.2.2.2.length,.sl 1 (List.map dI s.2.2.2.2.1) 7,kI s.2.2.2.2.2.1],[],[.arr 14 (List.map Jj s.2.2.2.2.2.2.1)],[.arr 11 (List.map Ja s.2.2.2.2.2.2.2.1)],[.arr 11 (List.map Ja s.2.2.2.2.2.2.2.2)]]) [3,3] o1 ?_ ?_
   ·refine xS ?_
    obtain⟨g,H⟩:=Jd H
    have F:=xZ Y (Jh (dL 11 Ja) r3 x3.toNat default default (by omega))
    refine xR0 ?_
    refine Jl ?_
    refine Vl ?_
    refine Jp (Xu q2 a1 a3 a4 x2 x3 x4 x5 x6 x7 x8 x9 x10 x11) (fun s=>[(0,.c (.pt 1 0)),(6,.c (.os 3 14 0 s.1)),(7,.c (.os 4 11 0 x10.length)),(9,.c (.d (.sl 11 (List.map Ja s.2.1)))),(40,.c (.d (.sl 1 (List.map (dL 11 Ja) r3)))),(41,cI x2),(42,cI x3),(57,cB s.2.2)]) (fun s=>[[.d (.sl 2 (List.map Jf a1)),kI x4,kI a3,kI a4,.d (.sl 5 (List.map Je x5)),.sl 1 (List.map dI x6) 6,.os 5 11 0 x11.length,.sl 1 (List.map dI x7) 7,kI x8],[],[.arr 14 (List.map Jj x9)],[.arr 11 (List.map Ja x10)],[.arr 11 (List.map Ja x11)]]) [3,3] o1 ?_ ?_
    ·obtain⟨g,H⟩:=Jd H
     have F:=xZ Y (Jh Ja (r3.getD x3.toNat default) 0 default default (by omega))
     rcases xB F G H with⟨p,H,F,G,q⟩|⟨p,H,F,G,q⟩
     ·refine xR ?_
      exact Jb H (xK ⟨[1,2,3,4,5],[6,7]⟩)
     obtain⟨g,H⟩:=Jd H
     have F:=xZ F (Jh Ja (r3.getD x3.toNat default) 0 default default (by omega))
     refine xR ?_
     exact Jb H (xK ⟨[1,2,3,4,5],[6,7]⟩)
    rintro ⟨x21,x22,x23⟩ H
    rw[Xu]at H
    rcases xB Y G H with⟨p,H,F,G,q⟩|⟨p,H,F,G,q⟩
    ·refine xT0 ?_
     refine Jp (VB x2 x3 x4 x5 x6 x7 x8 x9 x11) (fun s=>[(0,.c (.pt 1 0)),(6,.c (.os 3 14 0 s.1)),(7,.c (.os 4 11 0 s.2.length)),(40,.c (.d (.sl 1 (List.map (dL 11 Ja) r3)))),(41,cI x2),(42,cI x3)]) (fun s=>[[.d (.sl 2 (List.map Jf a1)),kI x4,kI a3,kI a4,.d (.sl 5 (List.map Je x5)),.sl 1 (List.map dI x6) 6,.os 5 11 0 x11.length,.sl 1 (List.map dI x7) 7,kI x8],[],[.arr 14 (List.map Jj x9)],[.arr 11 (List.map Ja s.2)],[.arr 11 (List.map Ja x11)]]) [3,3] o1 ?_ ?_
     ·refine xS ?_
      obtain⟨r4,hr5,H⟩:=Ji H
      have F:=Y
      refine xQ ?_
      refine xs 1 ?_
      refine xc ⟨[3],[]⟩ (tabG 1 (cg2 hr5)) ?_
      refine xl ?_
      refine xS ?_
      rcases xB Y G H with⟨p,H,F,G,q⟩|⟨p,H,F,G,q⟩
      ·refine xT ?_
       obtain⟨g,H⟩:=Jd H
       have F:=xZ Y (JQ KO x22)
       have A:=JQ KO x22
       refine xR ?_
       exact Jb H (xK ⟨[1,2,3,9,5],[6,7]⟩)
      refine xE ?_
      exact Jb H (xK ⟨[1,2,3,4,5],[6,7]⟩)
     rintro ⟨x24,x25⟩ H
     rw[VB]at H
     refine xS ?_
     exact Jb H (xK ⟨[1,2,3,4,5],[6,7]⟩)
    refine xE ?_
    refine xfz 4 11 (List.map Ja x10) [] ?_
    rcases Zy H with⟨r5,hr6,H⟩|⟨e2,hr7,H⟩
    ·have F:=Y
     refine xQ ?_
     refine xs 2 ?_
     refine xc ⟨[1,5],[6,7]⟩ (tabG 2 (cg10 hr6)) ?_
     refine xl ?_
     refine xS ?_
     refine xr ?_
     refine xr ?_
     rcases xB Y G H with⟨p,H,F,G,q⟩|⟨p,H,F,G,q⟩
     ·refine xT ?_
      exact Jb H (xK ⟨[1,2,3,0,10],[11,12]⟩)
     refine xE ?_
     rcases Zy H with⟨r6,hr8,H⟩|⟨e3,hr9,H⟩
     ·have F:=Y
      refine xQ ?_
      refine xs 3 ?_
      refine xc ⟨[1,3,10],[11,12]⟩ (tabG 3 (cg12 hr8)) ?_
      refine xs 5 ?_
      refine xl ?_
      refine xS ?_
      refine xr0 ?_
      refine Jl ?_
      refine Jp (Jax q2 a1 a3 a4 x2 x3 x5 x6 x7 x8 x22 r5 r6) (fun s=>[(0,.c (.pt 1 0)),(6,.c (.os 3 14 0 s.1)),(7,.c (.sl 11 [] 0)),(9,.c (.d (.sl 11 (List.map Ja x22)))),(40,.c (.d (.sl 1 (List.map (dL 11 Ja) r3)))),(41,cI x2),(42,cI x3),(82,cB s.2)]) (fun s=>[[.d (.sl 2 (List.map Jf a1)),kI r6.2.2.1,kI a3,kI a4,.d (.sl 5 (List.map Je x5)),.sl 1 (List.map dI x6) 5,.os 4 11 0 r5.2.length,.sl 1 (List.map dI x7) 6,kI x8],[],[.arr 14 (List.map Jj r6.2.2.2)],[.arr 11 (List.map Ja r5.2)]]) [3,3] o1 ?_ ?_
      ·rcases xB Y G H with⟨p,H,F,G,q⟩|⟨p,H,F,G,q⟩
       ·obtain⟨r8,hr12,H⟩:=Ji H
        have F:=F
        refine xQ ?_
        refine xs 4 ?_
        refine xc ⟨[16],[]⟩ (tabG 1 (cg2 hr12)) ?_
        refine xs 1 ?_
        refine xl ?_
        refine xS ?_
        exact Jb H (xK ⟨[1,2,16,17],[18,19]⟩)
       refine xR ?_
       exact Jb H (xK ⟨[1,2,16,17],[18,19]⟩)
      rintro ⟨x26,x27⟩ H
      rw[Jax]at H
      rcases xB Y G H with⟨p,H,F,G,q⟩|⟨p,H,F,G,q⟩
      ·refine xT ?_
       rcases Zy H with⟨r7,hr10,H⟩|⟨e4,hr11,H⟩
       ·have F:=Y
        refine xQ ?_
        refine xs 2 ?_
        refine xc ⟨[1,4],[5,6]⟩ (tabG 4 (cg10 hr10)) ?_
        refine xl ?_
        refine xS ?_
        exact Jb H (xK ⟨[1,2,3,0,9],[10,11]⟩)
       have F:=Y
       refine xQp [83,84,85] ?_
       refine xs 2 ?_
       refine xp ⟨[1,4],[5,6]⟩ (tabG 4 (cg10 hr11)) ?_
       replace H:=Js H hF1
       replace H:=oI H
       refine xS ?_
       subst H
       refine xpD [] ?_
       exact xOv ⟨[1,2,9],[10,11]⟩
      refine xE ?_
      exact Jb H (xK ⟨[1,2,3,0,4],[5,6]⟩)
     have F:=Y
     refine xQp [70,71,72,73,69,74,75,10,11] ?_
     refine xs 3 ?_
     refine xp ⟨[1,3,10],[11,12]⟩ (tabG 3 (cg12 hr9)) ?_
     replace H:=Js H hF1
     replace H:=oI H
     refine xS ?_
     subst H
     refine xpD [] ?_
     exact xOv ⟨[1,2,16],[17,18]⟩
    have F:=Y
    refine xQp [63,64,65] ?_
    refine xs 2 ?_
    refine xp ⟨[1,5],[6,7]⟩ (tabG 2 (cg10 hr7)) ?_
    replace H:=Js H hF1
    replace H:=oI H
    refine xS ?_
    subst H
    refine xpD [] ?_
    exact xOv ⟨[1,2,10],[11,12]⟩
   rintro ⟨x12,x13,x14,x15,x16,x17,x18,x19,x20⟩ H
   rw[Ky]at H
   refine xr ?_
   exact JB (JG H hF1) (xK ⟨[1,2,3,4,5],[6,7]⟩)
  replace H:=Js H hF1
  refine xE ?_
  refine xfz 4 11 (List.map Ja x10) [] ?_
  rcases Zy H with⟨r9,hr13,H⟩|⟨e5,hr14,H⟩
  ·have F:=Y
   refine xQ ?_
   refine xs 2 ?_
   refine xc ⟨[1,5],[6,7]⟩ (tabG 2 (cg10 hr13)) ?_
   refine xl ?_
   refine xS ?_
   refine xr ?_
   rcases xB Y G H with⟨p,H,F,G,q⟩|⟨p,H,F,G,q⟩
   ·refine xT ?_
    obtain⟨hg,H⟩:=Jd H
    have T:=JeP x9 x1 hg
    have Y:=xZ Y T
    refine xft 3 x1 ?_
    refine xfz 3 14 (List.map Jj (List.take x1 x9)) [] ?_
    obtain⟨g,H⟩:=Jd H
    have F:=xZ Y (Jh Jj (List.take x1 x9) ((IntKind.i64.wrap (((x1:Nat):Int)-1)).toNat) default default (by omega))
    cases H
   replace H:=oI H
   refine xE ?_
   subst H
   refine xnD [] ?_
   exact xO ⟨[1,2,10],[11,12]⟩
  have F:=Y
  refine xQp [87,88,89] ?_
  refine xs 2 ?_
  refine xp ⟨[1,5],[6,7]⟩ (tabG 2 (cg10 hr14)) ?_
  replace H:=oI H
  refine xS ?_
  subst H
  refine xpD [] ?_
  exact xOv ⟨[1,2,10],[11,12]⟩
 have F:=Y
 refine xQp [37,38] ?_
 refine xs 1 ?_
 refine xp ⟨[],[]⟩ (tabG 0 (cg1 hr3)) ?_
 replace H:=oI H
 refine xS ?_
 subst H
 refine xpD [] ?_
 exact xOv ⟨[1,2,5],[3,6]⟩
noncomputable def ZQ(a0:List Token)(a2:Int)(a5:List Macro)(a6 a7:List Int)(a8:Int)(a9:List Token)(r1:Macro×Fault):(Int×Int)→Option Yd
 | (x1,x2)=>grB (JaF (⟨r1.2.Err,x1,x2⟩:Fault)) (fun r2=>(Jfk a5 r1.1).bind fun r3=>if(!eqI r3.2 0)=true then if 2<a0.length then none else none else some (.ok (a2,r3.1,a6,a7,a8,a9))) (fun e1=>some (.er ((⟨r1.2.Err,x1,x2⟩:Fault).Err,(⟨r1.2.Err,x1,x2⟩:Fault).File,(⟨r1.2.Err,x1,x2⟩:Fault).At,a2,a5,a6,a7,a8,a9)))
noncomputable def ZN(a0:List Token)(a2:Int)(a5:List Macro)(a6 a7:List Int)(a8:Int)(a9:List Token)(r1:Macro×Fault):Bool→Option Yd
 | x3=>if x3=true then if 1<a0.length then if 1<a0.length then ZQ a0 a2 a5 a6 a7 a8 a9 r1 ((a0.getD 1 default).File,(a0.getD 1 default).At) else none else none else ZQ a0 a2 a5 a6 a7 a8 a9 r1 (r1.2.File,r1.2.At)
noncomputable def ZV(a0:List Token):Bool→Option Yd
 | x4=>if x4=true then if 1<a0.length then none else none else if 2<a0.length then(Jc1 ((a0.getD 2 default).Text)).bind fun r4=>if r4=true then if 2<a0.length then none else none else if 2<a0.length then none else none else none
noncomputable def Z4(a0:List Token)(a2:Int)(a5:List Macro)(a6 a7:List Int)(a8:Int)(a9:List Token):Bool→Option Yd
 | x5=>if x5=true then if 2<a0.length then if(a6.length + [(a0.getD 2 default).File].length) * 8≤140737488355328 then some (.ok (a2,a5,a6++[(a0.getD 2 default).File],a7,a8,a9)) else none else none else some (.ok (a2,a5,a6,a7,a8,a9))
noncomputable def VC(q1:Int→(List Source)→Int→Int→Int→(List Macro)→(List Int)→(List Int)→Int→(List Token)→Option Yd)(q2 q3:(List Token)→(List Source)→Int→Int→Int→(List Macro)→(List Int)→(List Int)→Int→(List Token)→Option Yd)(a0:List Token)(a1:List Source)(a2 a3 a4:Int)(a5:List Macro)(a6 a7:List Int)(a8:Int)(a9:List Token):Option Yd :=
 if 1<a0.length then if(eqS ((a0.getD 1 default).Text) [100,101,102,105,110,101])=true then if(0:Int)≤2∧2≤(a0.length:Int)∧(a0.length:Int)≤(a0.length:Int) then(Jgj (List.drop 2 a0)).bind fun r1=>if(ltI r1.2.File 0)=true then ZN a0 a2 a5 a6 a7 a8 a9 r1 (!eqI r1.2.Err 0) else ZN a0 a2 a5 a6 a7 a8 a9 r1 false else none else if(eqS ((a0.getD 1 default).Text) [117,110,100,101,102])=true then if(!eqI (a0.length:Int) 3)=true then ZV a0 true else if 2<a0.length then ZV a0 (!eqI ((a0.getD 2 default).Kind) 1) else none else if(eqS ((a0.getD 1 default).Text) [105,110,99,108,117,100,101])=true then grB (q3 a0 a1 a2 a3 a4 a5 a6 a7 a8 a9) (fun r5=>some (.ok (r5.1,r5.2.1,r5.2.2.1,r5.2.2.2.1,r5.2.2.2.2.1,r5.2.2.2.2.2))) (fun e2=>some (.er (e2.1,e2.2.1,e2.2.2.1,e2.2.2.2.1,e2.2.2.2.2.1,e2.2.2.2.2.2.1,e2.2.2.2.2.2.2.1,e2.2.2.2.2.2.2.2.1,e2.2.2.2.2.2.2.2.2))) else if(eqS ((a0.getD 1 default).Text) [101,114,114,111,114])=true then if 1<a0.length then none else none else if(eqS ((a0.getD 1 default).Text) [112,114,97,103,109,97])=true then if(eqI (a0.length:Int) 3)=true then if 2<a0.length then Z4 a0 a2 a5 a6 a7 a8 a9 (eqS ((a0.getD 2 default).Text) [111,110,99,101]) else none else Z4 a0 a2 a5 a6 a7 a8 a9 false else if 1<a0.length then none else none else none
theorem JhT(q1:Int→(List Source)→Int→Int→Int→(List Macro)→(List Int)→(List Int)→Int→(List Token)→Option Yd)(q2 q3:(List Token)→(List Source)→Int→Int→Int→(List Macro)→(List Int)→(List Int)→Int→(List Token)→Option Yd)(kq1:Kok Tryz.prog 24 false (KY q1))(kq2:Kok Tryz.prog 38 false (Vh q2))(kq3:Kok Tryz.prog 60 false (KV q3)):∀ g,Vh (VC q1 q2 q3) g→Jm Tryz.prog 38 g:=by
 rintro _ ⟨a0,a1,a2,a3,a4,a5,a6,a7,a8,a9,r,H,rfl⟩
 refine xGnl mixed [5] [(56,JfU),(57,JfC),(58,JcK)] [(33,false,Jba),(60,false,(KV q3))] [] ⟨⟨JBv,JoW⟩,⟨JBi,Jn1⟩,⟨JwB,JgZ⟩,trivial⟩ ⟨Ja0,kq3,trivial⟩ trivial Tryz.func38 _ ?_
 have G:=True.intro
 have Y:=xZ y_3 <| xZ y_9 <| xZ y_24 <| xZ y_25 <| xZ y_28 <| xZ y_29 <| xZ y_31 <| xZ y_44 <| xZ y_63 <| xZ y_65 <| xZ Tryz.results38 <| xZ Jf.eq_1 <| xZ Jk.eq_1 <| xZ Ja.eq_1 <| xZ Je.eq_1 <| xZ Kw.eq_1 <| xZ J9.eq_1 <| xZ Ja3.eq_1 <| xZ Zr.eq_1 <| JaK.eq_1
 dsimp only[JaK]
 simp only[VC]at H
 refine xS ?_
 refine xrn 2 1 ?_
 obtain⟨g,H⟩:=Jd H
 have F:=xZ Y (Jh Ja a0 1 default default (by omega))
 refine xR ?_
 refine xr ?_
 rcases xB Y G H with⟨p,H,F,G,q⟩|⟨p,H,F,G,q⟩
 ·refine xT ?_
  obtain⟨g,H⟩:=Jd H
  obtain⟨r1,hr1,H⟩:=Ji H
  have F:=xC Y (Jso (List.drop 2 a0) r1 hr1)
  refine xR0 ?_
  refine Jl ?_
  refine Jp (ZQ a0 a2 a5 a6 a7 a8 a9 r1) (fun s=>[(0,.c (.pt 1 0)),(1,.c (.d (.sl 11 (List.map Ja a0)))),(4,.c (.pt 3 0)),(5,.c (.pt 4 0))]) (fun s=>[[.d (.sl 2 (List.map Jf a1)),kI a2,kI a3,kI a4,.d (.sl 5 (List.map Je a5)),.sl 1 (List.map dI a6) 6,.os 5 11 0 a9.length,.sl 1 (List.map dI a7) 7,kI a8],[],[kS r1.1.Name,kB r1.1.Call,.d (.sl 1 (List.map dS r1.1.Params)),kB r1.1.More,.d (.sl 11 (List.map Ja r1.1.Body))],[kI r1.2.Err,kI s.1,kI s.2],[.arr 11 (List.map Ja a9)]]) [3,3] r ?_ ?_
  ·refine Jp (ZN a0 a2 a5 a6 a7 a8 a9 r1) (fun s=>[(0,.c (.pt 1 0)),(1,.c (.d (.sl 11 (List.map Ja a0)))),(4,.c (.pt 3 0)),(5,.c (.pt 4 0)),(30,cB s)]) (fun s=>[[.d (.sl 2 (List.map Jf a1)),kI a2,kI a3,kI a4,.d (.sl 5 (List.map Je a5)),.sl 1 (List.map dI a6) 6,.os 5 11 0 a9.length,.sl 1 (List.map dI a7) 7,kI a8],[],[kS r1.1.Name,kB r1.1.Call,.d (.sl 1 (List.map dS r1.1.Params)),kB r1.1.More,.d (.sl 11 (List.map Ja r1.1.Body))],[kI r1.2.Err,kI r1.2.File,kI r1.2.At],[.arr 11 (List.map Ja a9)]]) [3,3] r ?_ ?_
   ·rcases xB Y G H with⟨p,H,F,G,q⟩|⟨p,H,F,G,q⟩
    ·refine xR ?_
     exact Jb H (xK ⟨[1,2,6,7,5],[3,4]⟩)
    refine xR ?_
    exact Jb H (xK ⟨[1,2,6,7,5],[3,4]⟩)
   rintro x3 H
   rw[ZN]at H
   rcases xB Y G H with⟨p,H,F,G,q⟩|⟨p,H,F,G,q⟩
   ·refine xT ?_
    obtain⟨g,H⟩:=Jd H
    have F:=xZ Y (Jh Ja a0 1 default default (by omega))
    obtain⟨g,H⟩:=Jd H
    have F:=xZ F (Jh Ja a0 1 default default (by omega))
    refine xP [0,1,2,3,4,5,6,7,8,9,10,11] [38] ⟨Ja0,kq3,trivial⟩ ?_
    refine xsX 7 ?_
    refine xaX ?_
    refine xsX 1 ?_
    refine xbX ?_
    refine xsX 1 ?_
    refine xbX ?_
    refine xlX ?_
    refine xS ?_
    exact Jb H (xK ⟨[1,2,3,4,5],[6,7]⟩)
   refine xE ?_
   exact Jb H (xK ⟨[1,2,3,4,5],[6,7]⟩)
  rintro ⟨x1,x2⟩ H
  rw[ZQ]at H
  refine xS ?_
  rcases Zy H with⟨r2,hr2,H⟩|⟨e1,hr3,H⟩
  ·have F:=Y
   refine xQ ?_
   refine xs 1 ?_
   refine xc ⟨[],[]⟩ (tabG 0 (cg1 hr2)) ?_
   refine xl ?_
   refine xS ?_
   obtain⟨r3,hr4,H⟩:=Ji H
   have F:=xC Y (Joy a5 r1.1 r3 hr4)
   refine xR ?_
   refine xr ?_
   rcases xB Y G H with⟨p,H,F,G,q⟩|⟨p,H,F,G,q⟩
   ·refine xT ?_
    obtain⟨g,H⟩:=Jd H
    have F:=xZ Y (Jh Ja a0 2 default default (by omega))
    cases H
   refine xE ?_
   replace H:=oI H
   refine xr ?_
   subst H
   refine xnD [] ?_
   exact xO ⟨[1,2,5],[6,7]⟩
  have F:=Y
  refine xQp [41,42] ?_
  refine xs 1 ?_
  refine xp ⟨[],[]⟩ (tabG 0 (cg1 hr3)) ?_
  replace H:=oI H
  refine xS ?_
  subst H
  refine xpD [] ?_
  exact xOv ⟨[1,2,5],[6,7]⟩
 refine xE ?_
 refine xr ?_
 rcases xB Y G H with⟨p,H,F,G,q⟩|⟨p,H,F,G,q⟩
 ·refine xT0 ?_
  refine Vl ?_
  refine Jp (ZV a0) (fun s=>[(0,.c (.pt 1 0)),(1,.c (.d (.sl 11 (List.map Ja a0)))),(73,cB s)]) (fun s=>[[.d (.sl 2 (List.map Jf a1)),kI a2,kI a3,kI a4,.d (.sl 5 (List.map Je a5)),.sl 1 (List.map dI a6) 4,.os 3 11 0 a9.length,.sl 1 (List.map dI a7) 5,kI a8],[],[.arr 11 (List.map Ja a9)]]) [3,3] r ?_ ?_
  ·rcases xB Y G H with⟨p,H,F,G,q⟩|⟨p,H,F,G,q⟩
   ·refine xR ?_
    exact Jb H (xK ⟨[1,2,5],[3,4]⟩)
   obtain⟨g,H⟩:=Jd H
   have F:=xZ F (Jh Ja a0 2 default default (by omega))
   refine xR ?_
   exact Jb H (xK ⟨[1,2,5],[3,4]⟩)
  rintro x4 H
  rw[ZV]at H
  rcases xB Y G H with⟨p,H,F,G,q⟩|⟨p,H,F,G,q⟩
  ·refine xT ?_
   obtain⟨g,H⟩:=Jd H
   have F:=xZ Y (Jh Ja a0 1 default default (by omega))
   cases H
  refine xE ?_
  obtain⟨g,H⟩:=Jd H
  have F:=xZ Y (Jh Ja a0 2 default default (by omega))
  obtain⟨r4,hr5,H⟩:=Ji H
  have F:=xCf F (JhF ((a0.getD 2 default).Text) r4 hr5)
  refine xR ?_
  rcases xB Y G H with⟨p,H,F,G,q⟩|⟨p,H,F,G,q⟩
  ·refine xT ?_
   obtain⟨g,H⟩:=Jd H
   have F:=xZ Y (Jh Ja a0 2 default default (by omega))
   cases H
  refine xE ?_
  obtain⟨g,H⟩:=Jd H
  have F:=xZ Y (Jh Ja a0 2 default default (by omega))
  cases H
 refine xE ?_
 refine xr ?_
 rcases xB Y G H with⟨p,H,F,G,q⟩|⟨p,H,F,G,q⟩
 ·refine xT ?_
  rcases Zy H with⟨r5,hr6,H⟩|⟨e2,hr7,H⟩
  ·have F:=Y
   refine xQ ?_
   refine xs 2 ?_
   refine xc ⟨[1,5],[3,4]⟩ (tabG 1 (cg10 hr6)) ?_
   refine xl ?_
   replace H:=oI H
   refine xS ?_
   subst H
   refine xnD [] ?_
   exact xO ⟨[1,2,8],[9,10]⟩
  have F:=Y
  refine xQp [99,100,101] ?_
  refine xs 2 ?_
  refine xp ⟨[1,5],[3,4]⟩ (tabG 1 (cg10 hr7)) ?_
  replace H:=oI H
  refine xS ?_
  subst H
  refine xpD [] ?_
  exact xOv ⟨[1,2,8],[9,10]⟩
 refine xE ?_
 refine xr ?_
 rcases xB Y G H with⟨p,H,F,G,q⟩|⟨p,H,F,G,q⟩
 ·refine xT ?_
  obtain⟨g,H⟩:=Jd H
  have F:=xZ Y (Jh Ja a0 1 default default (by omega))
  cases H
 refine xE ?_
 refine xr ?_
 rcases xB Y G H with⟨p,H,F,G,q⟩|⟨p,H,F,G,q⟩
 ·refine xT0 ?_
  refine Jp (Z4 a0 a2 a5 a6 a7 a8 a9) (fun s=>[(0,.c (.pt 1 0)),(1,.c (.d (.sl 11 (List.map Ja a0)))),(118,cB s)]) (fun s=>[[.d (.sl 2 (List.map Jf a1)),kI a2,kI a3,kI a4,.d (.sl 5 (List.map Je a5)),.sl 1 (List.map dI a6) 4,.os 3 11 0 a9.length,.sl 1 (List.map dI a7) 5,kI a8],[],[.arr 11 (List.map Ja a9)]]) [3,3] r ?_ ?_
  ·rcases xB Y G H with⟨p,H,F,G,q⟩|⟨p,H,F,G,q⟩
   ·obtain⟨g,H⟩:=Jd H
    have F:=xZ F (Jh Ja a0 2 default default (by omega))
    refine xR ?_
    exact Jb H (xK ⟨[1,2,5],[3,4]⟩)
   refine xR ?_
   exact Jb H (xK ⟨[1,2,5],[3,4]⟩)
  rintro x5 H
  rw[Z4]at H
  rcases xB Y G H with⟨p,H,F,G,q⟩|⟨p,H,F,G,q⟩
  ·refine xT ?_
   obtain⟨g,H⟩:=Jd H
   have F:=xZ Y (Jh Ja a0 2 default default (by omega))
   obtain⟨g,H⟩:=Jd H
   have F:=xZ F (JQ Jno [(a0.getD 2 default).File])
   replace H:=oI H
   refine xR ?_
   subst H
   refine xnD [] ?_
   exact xO ⟨[1,2,3],[6,5]⟩
  replace H:=oI H
  refine xE ?_
  subst H
  refine xnD [] ?_
  exact xO ⟨[1,2,3],[4,5]⟩
 refine xE ?_
 obtain⟨g,H⟩:=Jd H
 have F:=xZ Y (Jh Ja a0 1 default default (by omega))
 cases H
noncomputable def VG(q1:Int→(List Source)→Int→Int→Int→(List Macro)→(List Int)→(List Int)→Int→(List Token)→Option Yd)(a0:List Token)(a1:List Source)(a2 a3 a4:Int)(a5:List Macro)(a6 a7:List Int)(a8:Int)(a9:List Token):Bool→Option Yd
 | x1=>if x1=true then if 1<a0.length then(Jd8 2 (a0.getD 1 default)).bind fun e1=>some (.er (2,(a0.getD 1 default).File,(a0.getD 1 default).At,a2,a5,a6,a7,a8,a9)) else none else if 2<a0.length then if 2<a0.length then if(0:Int)≤1∧1≤(IntKind.i64.wrap ((((a0.getD 2 default).Text).length:Int)-1))∧(IntKind.i64.wrap ((((a0.getD 2 default).Text).length:Int)-1))≤(((a0.getD 2 default).Text).length:Int) then if 2<a0.length then if 2<a0.length then(JeE a1 ((a0.getD 2 default).File) (List.take ((IntKind.i64.wrap ((((a0.getD 2 default).Text).length:Int)-1)).toNat-1) (List.drop 1 ((a0.getD 2 default).Text))) (eqI ((a0.getD 2 default).Kind) 4)).bind fun r2=>if(ltI r2 0)=true then if 2<a0.length then(Jd8 6 (a0.getD 2 default)).bind fun e2=>some (.er (6,(a0.getD 2 default).File,(a0.getD 2 default).At,a2,a5,a6,a7,a8,a9)) else none else(Xp a6 r2).bind fun r4=>if r4=true then some (.ok (a2,a5,a6,a7,a8,a9)) else if(leI a4 a8)=true then if 2<a0.length then(Jd8 10 (a0.getD 2 default)).bind fun e3=>some (.er (10,(a0.getD 2 default).File,(a0.getD 2 default).At,a2,a5,a6,a7,a8,a9)) else none else grB (q1 r2 a1 a2 a3 a4 a5 a6 a7 (IntKind.i64.wrap (a8+1)) a9) (fun r6=>some (.ok (r6.1,r6.2.1,r6.2.2.1,r6.2.2.2.1,IntKind.i64.wrap (r6.2.2.2.2.1-1),r6.2.2.2.2.2))) (fun e4=>some (.er (e4.1,e4.2.1,e4.2.2.1,e4.2.2.2.1,e4.2.2.2.2.1,e4.2.2.2.2.2.1,e4.2.2.2.2.2.2.1,e4.2.2.2.2.2.2.2.1,e4.2.2.2.2.2.2.2.2))) else none else none else none else none else none
noncomputable def Zq(q1:Int→(List Source)→Int→Int→Int→(List Macro)→(List Int)→(List Int)→Int→(List Token)→Option Yd)(q2 q3:(List Token)→(List Source)→Int→Int→Int→(List Macro)→(List Int)→(List Int)→Int→(List Token)→Option Yd)(a0:List Token)(a1:List Source)(a2 a3 a4:Int)(a5:List Macro)(a6 a7:List Int)(a8:Int)(a9:List Token):Option Yd :=
 if(!eqI (a0.length:Int) 3)=true then VG q1 a0 a1 a2 a3 a4 a5 a6 a7 a8 a9 true else if 2<a0.length then if(!eqI ((a0.getD 2 default).Kind) 4)=true then if 2<a0.length then VG q1 a0 a1 a2 a3 a4 a5 a6 a7 a8 a9 (!eqI ((a0.getD 2 default).Kind) 7) else none else VG q1 a0 a1 a2 a3 a4 a5 a6 a7 a8 a9 false else none
theorem JgY(q1:Int→(List Source)→Int→Int→Int→(List Macro)→(List Int)→(List Int)→Int→(List Token)→Option Yd)(q2 q3:(List Token)→(List Source)→Int→Int→Int→(List Macro)→(List Int)→(List Int)→Int→(List Token)→Option Yd)(kq1:Kok Tryz.prog 24 false (KY q1))(kq2:Kok Tryz.prog 38 false (Vh q2))(kq3:Kok Tryz.prog 60 false (KV q3)):∀ g,KV (Zq q1 q2 q3) g→Jm Tryz.prog 60 g:=by
 rintro _ ⟨a0,a1,a2,a3,a4,a5,a6,a7,a8,a9,r,H,rfl⟩
 refine xGn mixed [(90,JeU),(91,Ze)] [(39,false,JdB),(24,false,(KY q1))] [] ⟨⟨JBo,Jmk⟩,⟨JBY,Jga⟩,trivial⟩ ⟨Jfa,kq1,trivial⟩ trivial Tryz.func60 _ ?_
 have G:=True.intro
 have Y:=xZ y_3 <| xZ y_9 <| xZ y_24 <| xZ y_25 <| xZ y_37 <| xZ y_39 <| xZ y_44 <| xZ y_65 <| xZ Tryz.results60 <| xZ Jf.eq_1 <| xZ Jk.eq_1 <| xZ Ja.eq_1 <| xZ Je.eq_1 <| xZ Kw.eq_1 <| xZ Jdy.eq_1 <| xZ X5.eq_1 <| Zr.eq_1
 dsimp only[Zr]
 simp only[Zq]at H
 refine Vl ?_
 refine Jp (VG q1 a0 a1 a2 a3 a4 a5 a6 a7 a8 a9) (fun s=>[(0,.c (.pt 1 0)),(1,.c (.d (.sl 11 (List.map Ja a0)))),(22,cB s)]) (fun s=>[[.d (.sl 2 (List.map Jf a1)),kI a2,kI a3,kI a4,.d (.sl 5 (List.map Je a5)),.sl 1 (List.map dI a6) 4,.os 3 11 0 a9.length,.sl 1 (List.map dI a7) 5,kI a8],[],[.arr 11 (List.map Ja a9)]]) [3,3] r ?_ ?_
 ·refine xrn 2 1 ?_
  rcases xB Y G H with⟨p,H,F,G,q⟩|⟨p,H,F,G,q⟩
  ·refine xR ?_
   exact Jb H (xK ⟨[1,2,5],[3,4]⟩)
  obtain⟨g,H⟩:=Jd H
  have F:=xZ F (Jh Ja a0 2 default default (by omega))
  rcases xB F G H with⟨p,H,F,G,q⟩|⟨p,H,F,G,q⟩
  ·obtain⟨g,H⟩:=Jd H
   have F:=xZ F (Jh Ja a0 2 default default (by omega))
   refine xR ?_
   exact Jb H (xK ⟨[1,2,5],[3,4]⟩)
  refine xR ?_
  exact Jb H (xK ⟨[1,2,5],[3,4]⟩)
 rintro x1 H
 rw[VG]at H
 rcases xB Y G H with⟨p,H,F,G,q⟩|⟨p,H,F,G,q⟩
 ·refine xT ?_
  obtain⟨g,H⟩:=Jd H
  have F:=xZ Y (Jh Ja a0 1 default default (by omega))
  obtain⟨e1,hr2,H⟩:=Ji H
  have F:=F
  refine xQp [23,24,25] ?_
  refine xs 2 ?_
  refine xp ⟨[],[]⟩ (tabG 0 (cg2 hr2)) ?_
  replace H:=oI H
  refine xS ?_
  subst H
  refine xpD [] ?_
  exact xOv ⟨[1,2,3],[4,5]⟩
 refine xE ?_
 obtain⟨g,H⟩:=Jd H
 have F:=xZ Y (Jh Ja a0 2 default default (by omega))
 obtain⟨g,H⟩:=Jd H
 have F:=xZ F (Jh Ja a0 2 default default (by omega))
 obtain⟨g,H⟩:=Jd H
 refine xR ?_
 obtain⟨g,H⟩:=Jd H
 have F:=xZ Y (Jh Ja a0 2 default default (by omega))
 obtain⟨g,H⟩:=Jd H
 have F:=xZ F (Jh Ja a0 2 default default (by omega))
 obtain⟨r2,hr3,H⟩:=Ji H
 have F:=xCf F (JmC a1 ((a0.getD 2 default).File) (List.take ((IntKind.i64.wrap ((((a0.getD 2 default).Text).length:Int)-1)).toNat-1) (List.drop 1 ((a0.getD 2 default).Text))) (eqI ((a0.getD 2 default).Kind) 4) r2 hr3)
 refine xR ?_
 refine xr ?_
 rcases xB Y G H with⟨p,H,F,G,q⟩|⟨p,H,F,G,q⟩
 ·refine xT ?_
  obtain⟨g,H⟩:=Jd H
  have F:=xZ Y (Jh Ja a0 2 default default (by omega))
  obtain⟨e2,hr5,H⟩:=Ji H
  have F:=F
  refine xQp [55,56,57] ?_
  refine xs 2 ?_
  refine xp ⟨[],[]⟩ (tabG 0 (cg2 hr5)) ?_
  replace H:=oI H
  refine xS ?_
  subst H
  refine xpD [] ?_
  exact xOv ⟨[1,2,3],[4,5]⟩
 refine xE ?_
 obtain⟨r4,hr6,H⟩:=Ji H
 have F:=xC Y (Jgs a6 r2 r4 hr6)
 refine xR ?_
 rcases xB Y G H with⟨p,H,F,G,q⟩|⟨p,H,F,G,q⟩
 ·replace H:=oI H
  refine xT ?_
  subst H
  refine xrD [] ?_
  exact xO ⟨[1,2,3],[4,5]⟩
 refine xE ?_
 refine xr ?_
 rcases xB Y G H with⟨p,H,F,G,q⟩|⟨p,H,F,G,q⟩
 ·refine xT ?_
  obtain⟨g,H⟩:=Jd H
  have F:=xZ Y (Jh Ja a0 2 default default (by omega))
  obtain⟨e3,hr8,H⟩:=Ji H
  have F:=F
  refine xQp [76,77,78] ?_
  refine xs 2 ?_
  refine xp ⟨[],[]⟩ (tabG 0 (cg2 hr8)) ?_
  replace H:=oI H
  refine xS ?_
  subst H
  refine xpD [] ?_
  exact xOv ⟨[1,2,3],[4,5]⟩
 refine xE ?_
 refine xr ?_
 rcases Zy H with⟨r6,hr9,H⟩|⟨e4,hr10,H⟩
 ·have F:=Y
  refine xQ ?_
  refine xs 2 ?_
  refine xc ⟨[1,3],[4,5]⟩ (tabG 1 (cg10 hr9)) ?_
  refine xl ?_
  refine xS ?_
  replace H:=oI H
  refine xr ?_
  subst H
  refine xnD [] ?_
  exact xO ⟨[1,2,8],[9,10]⟩
 have F:=Y
 refine xQp [86,87,88] ?_
 refine xs 2 ?_
 refine xp ⟨[1,3],[4,5]⟩ (tabG 1 (cg10 hr10)) ?_
 replace H:=oI H
 refine xS ?_
 subst H
 refine xpD [] ?_
 exact xOv ⟨[1,2,8],[9,10]⟩
noncomputable def Jn:Nat→Yc×Yb×Yb
 | 0=>(fun _ _ _ _ _ _ _ _ _ _=>none,fun _ _ _ _ _ _ _ _ _ _=>none,fun _ _ _ _ _ _ _ _ _ _=>none)
 | n+1=>(K9 ((Jn n).1) ((Jn n).2.1) ((Jn n).2.2),VC ((Jn n).1) ((Jn n).2.1) ((Jn n).2.2),Zq ((Jn n).1) ((Jn n).2.1) ((Jn n).2.2))
theorem Jec:∀ n,Kok Tryz.prog 24 false (KY (Jn n).1)∧Kok Tryz.prog 38 false (Vh (Jn n).2.1)∧Kok Tryz.prog 60 false (KV (Jn n).2.2)
 | 0=>⟨⟨JwA,(by rintro _ ⟨_,_,_,_,_,_,_,_,_,_,_,H,_⟩; cases H),nofun⟩,⟨Jwg,(by rintro _ ⟨_,_,_,_,_,_,_,_,_,_,_,H,_⟩; cases H),nofun⟩,⟨Jv5,(by rintro _ ⟨_,_,_,_,_,_,_,_,_,_,_,H,_⟩; cases H),nofun⟩⟩
 | n+1=>have h:=Jec n; ⟨⟨JwA,Jiu _ _ _ h.1 h.2.1 h.2.2,nofun⟩,⟨Jwg,JhT _ _ _ h.1 h.2.1 h.2.2,nofun⟩,⟨Jv5,JgY _ _ _ h.1 h.2.1 h.2.2,nofun⟩⟩
noncomputable def Jal:Int→(List Source)→Int→Int→Int→(List Macro)→(List Int)→(List Int)→Int→(List Token)→Option Yd:=(Jn bigF).1
def JfP:GI→Prop:=KY Jal
theorem Jbh:Kok Tryz.prog 24 false JfP:=(Jec bigF).1
noncomputable def Jeo(a0 a1 a2:Int):Option Unit :=
 some ()
def Jcm(a0 a1 a2:Int)(r:Unit):DI :=
 ⟨[.c (.pt 1 0)],[[kI a0,kI a1,kI a2]],[],none,[[kI a0,kI a1,kI a2]],[],none⟩
def JfR:DI→Prop:=fun d=>∃ (a0 a1 a2:Int) (r:Unit),Jeo a0 a1 a2=some r∧d=Jcm a0 a1 a2 r
theorem Jox(a0 a1 a2:Int)(r:Unit)(H:Jeo a0 a1 a2=some r):JfR (Jcm a0 a1 a2 r):=⟨a0,a1,a2,r,H,rfl⟩
theorem Jne:∀ d,JfR d→DOk Tryz.prog 23 d:=by
 rintro _ ⟨a0,a1,a2,r,H,rfl⟩
 refine xRcl mixed [] [] [] trivial trivial Tryz.func23 _ ?_
 have G:=True.intro
 have Y:=xZ y_20 <| xZ y_31 <| xZ y_78 <| xZ Tryz.results23 <| xZ J9.eq_1 <| Jcm.eq_1
 dsimp only[Jcm,Option.getD_some,Option.getD_none]
 unfold Jeo at H
 refine xS ?_
 refine xr ?_
 refine xt ?_
 replace H:=oI H
 refine xr ?_
 subst H
 exact xDn ⟨[1],[]⟩
noncomputable def Jeq(a0 a1 a2:Int)(a3:List Token)(a4:List Int)(a5:List Macro):Option Yu :=
 if(!eqI a0 0)=true then some (([]:List Token),([]:List Int),([]:List Macro)) else some (a3,a4,a5)
def Jcg(a0 a1 a2:Int)(a3:List Token)(a4:List Int)(a5:List Macro)(r:Yu)(u:Option Value):DI :=
 ⟨[.c (.pt 1 0),.c (.pt 2 0),.c (.pt 3 0)],[[kI a0,kI a1,kI a2],[.d (.sl 11 (List.map Ja a3)),.sl 1 (List.map dI a4) 4],[.d (.sl 5 (List.map Je a5))]],[3],u,[[kI a0,kI a1,kI a2],[.d (.sl 11 (List.map Ja r.1)),.sl 1 (List.map dI r.2.1) 4],[.d (.sl 5 (List.map Je r.2.2))]],[3],u⟩
def JfQ:DI→Prop:=fun d=>∃ (a0 a1 a2:Int) (a3:List Token) (a4:List Int) (a5:List Macro) (r:Yu) (u:Option Value),Jeq a0 a1 a2 a3 a4 a5=some r∧d=Jcg a0 a1 a2 a3 a4 a5 r u
theorem JoQ(a0 a1 a2:Int)(a3:List Token)(a4:List Int)(a5:List Macro)(r:Yu)(u:Option Value)(H:Jeq a0 a1 a2 a3 a4 a5=some r):JfQ (Jcg a0 a1 a2 a3 a4 a5 r u):=⟨a0,a1,a2,a3,a4,a5,r,u,H,rfl⟩
theorem Jnh:∀ d,JfQ d→DOk Tryz.prog 22 d:=by
 rintro _ ⟨a0,a1,a2,a3,a4,a5,r,u,H,rfl⟩
 refine xDf mixed [] [] trivial trivial Tryz.func22 _ ?_
 have G:=True.intro
 have Y:=xZ y_24 <| xZ y_25 <| xZ y_27 <| xZ y_28 <| xZ y_29 <| xZ y_31 <| xZ Tryz.results22 <| xZ Jk.eq_1 <| xZ Ja.eq_1 <| xZ Je.eq_1 <| Jcg.eq_1
 dsimp only[Jcg]
 simp only[Jeq]at H
 refine xS ?_
 refine xr ?_
 rcases xB Y G H with⟨p,H,F,G,q⟩|⟨p,H,F,G,q⟩
 ·refine xT ?_
  replace H:=oI H
  refine xr ?_
  subst H
  exact xDn ⟨[1,2,3],[0]⟩
 replace H:=oI H
 refine xE ?_
 subst H
 exact xDn ⟨[1,2,3],[4]⟩
noncomputable def JaT(a0 a1 a2 a3 a4 a5:Int):Option Unit :=
 some ()
def Jan(a0 a1 a2 a3 a4 a5:Int)(r:Unit):DI :=
 ⟨[.c (.pt 1 0)],[[kI a0,kI a1,kI a2]],[],(some (.iface 78 (.agg ⟨[.int .i64 a3,.int .i64 a4,.int .i64 a5]⟩))),[[kI a3,kI a4,kI a5]],[],none⟩
def Jeg:DI→Prop:=fun d=>∃ (a0 a1 a2 a3 a4 a5:Int) (r:Unit),JaT a0 a1 a2 a3 a4 a5=some r∧d=Jan a0 a1 a2 a3 a4 a5 r
theorem JlN(a0 a1 a2 a3 a4 a5:Int)(r:Unit)(H:JaT a0 a1 a2 a3 a4 a5=some r):Jeg (Jan a0 a1 a2 a3 a4 a5 r):=⟨a0,a1,a2,a3,a4,a5,r,H,rfl⟩
theorem Jkd:∀ d,Jeg d→DOk Tryz.prog 23 d:=by
 rintro _ ⟨a0,a1,a2,a3,a4,a5,r,H,rfl⟩
 refine xRcl mixed [] [] [] trivial trivial Tryz.func23 _ ?_
 have G:=True.intro
 have Y:=xZ y_20 <| xZ y_31 <| xZ y_78 <| xZ Tryz.results23 <| xZ J9.eq_1 <| Jan.eq_1
 dsimp only[Jan,Option.getD_some,Option.getD_none]
 unfold JaT at H
 refine xS ?_
 refine xr ?_
 refine xe ?_
 refine xr ?_
 refine xt ?_
 refine xr ?_
 replace H:=oI H
 refine xr ?_
 subst H
 exact xDn ⟨[1],[]⟩
noncomputable def JaR(a0 a1 a2:Int)(a3:List Token)(a4:List Int)(a5:List Macro):Option Yu :=
 if(!eqI a0 0)=true then some (([]:List Token),([]:List Int),([]:List Macro)) else some (a3,a4,a5)
def Jab(a0 a1 a2:Int)(a3:List Token)(a4:List Int)(a5:List Macro)(r:Yu)(u:Option Value):DI :=
 ⟨[.c (.pt 1 0),.c (.pt 2 0),.c (.pt 3 0)],[[kI a0,kI a1,kI a2],[.sl 11 (List.map Ja a3) 4,.sl 1 (List.map dI a4) 5],[.sl 5 (List.map Je a5) 6]],[44,3,63],u,[[kI a0,kI a1,kI a2],[.sl 11 (List.map Ja r.1) 4,.sl 1 (List.map dI r.2.1) 5],[.sl 5 (List.map Je r.2.2) 6]],[44,3,63],u⟩
def Jei:DI→Prop:=fun d=>∃ (a0 a1 a2:Int) (a3:List Token) (a4:List Int) (a5:List Macro) (r:Yu) (u:Option Value),JaR a0 a1 a2 a3 a4 a5=some r∧d=Jab a0 a1 a2 a3 a4 a5 r u
theorem JlQ(a0 a1 a2:Int)(a3:List Token)(a4:List Int)(a5:List Macro)(r:Yu)(u:Option Value)(H:JaR a0 a1 a2 a3 a4 a5=some r):Jei (Jab a0 a1 a2 a3 a4 a5 r u):=⟨a0,a1,a2,a3,a4,a5,r,u,H,rfl⟩
theorem JkI:∀ d,Jei d→DOk Tryz.prog 22 d:=by
 rintro _ ⟨a0,a1,a2,a3,a4,a5,r,u,H,rfl⟩
 refine xDf mixed [] [] trivial trivial Tryz.func22 _ ?_
 have G:=True.intro
 have Y:=xZ y_24 <| xZ y_25 <| xZ y_27 <| xZ y_28 <| xZ y_29 <| xZ y_31 <| xZ Tryz.results22 <| xZ Jk.eq_1 <| xZ Ja.eq_1 <| xZ Je.eq_1 <| Jab.eq_1
 dsimp only[Jab]
 simp only[JaR]at H
 refine xS ?_
 refine xr ?_
 rcases xB Y G H with⟨p,H,F,G,q⟩|⟨p,H,F,G,q⟩
 ·refine xT ?_
  replace H:=oI H
  refine xr ?_
  subst H
  exact xDn ⟨[1,2,3],[0,0,0]⟩
 replace H:=oI H
 refine xE ?_
 subst H
 exact xDn ⟨[1,2,3],[4,5,6]⟩
noncomputable def Vt(a0:List Source)(a1:Int)(a2:List Macro)(a3:Limits):Bool→Option Yn
 | x2=>if x2=true then some (([]:List Token),([]:List Int),([]:List Macro),3,(-1),0) else(JW a2).bind fun r2=>grB (Jal a1 a0 a3.Fuel a3.Out a3.Deep a2 ([]:List Int) ([]:List Int) 0 []) (fun r3=>(Jeo 0 (-1) 0).bind fun r4=>(Jeq 0 (-1) 0 r3.2.2.2.2.2 r3.2.2.2.1 r3.2.1).bind fun r5=>some (r5.1,r5.2.1,r5.2.2,0,(-1),0)) (fun e1=>(JaT 0 0 0 e1.1 e1.2.1 e1.2.2.1).bind fun r6=>(JaR e1.1 e1.2.1 e1.2.2.1 ([]:List Token) ([]:List Int) ([]:List Macro)).bind fun r7=>some (r7.1,r7.2.1,r7.2.2,e1.1,e1.2.1,e1.2.2.1))
noncomputable def Jbe(a0:List Source)(a1:Int)(a2:List Macro)(a3:Limits):Bool→Option Yn
 | x1=>if x1=true then some (([]:List Token),([]:List Int),([]:List Macro),6,(-1),0) else if(ltI a3.Fuel 0)=true then Vt a0 a1 a2 a3 true else if(ltI 4000 a3.Fuel)=true then Vt a0 a1 a2 a3 true else if(ltI a3.Out 0)=true then Vt a0 a1 a2 a3 true else if(ltI 1500 a3.Out)=true then Vt a0 a1 a2 a3 true else if(ltI a3.Deep 0)=true then Vt a0 a1 a2 a3 true else Vt a0 a1 a2 a3 (ltI 6 a3.Deep)
noncomputable def XN(a0:List Source)(a1:Int)(a2:List Macro)(a3:Limits):Option Yn :=
 (Zg a0).bind fun r1=>if(!eqI r1.Err 0)=true then some (([]:List Token),([]:List Int),([]:List Macro),r1.Err,r1.File,r1.At) else if(ltI a1 0)=true then Jbe a0 a1 a2 a3 true else Jbe a0 a1 a2 a3 (leI (a0.length:Int) a1)
def Jer(a0:List Source)(a1:Int)(a2:List Macro)(a3:Limits)(r:Yn):GI :=
 ⟨[.c (.d (.sl 2 (List.map Jf a0))),cI a1,.c (.d (.sl 5 (List.map Je a2))),.ag [kI a3.Fuel,kI a3.Out,kI a3.Deep]],[],[],.ret (.tu [(true,[.d (.sl 11 (List.map Ja r.1)),.sl 1 (List.map dI r.2.1) 1]),(false,[.d (.sl 5 (List.map Je r.2.2.1))]),(true,[kI r.2.2.2.1,kI r.2.2.2.2.1,kI r.2.2.2.2.2])]) [] [3]⟩
def Jel:GI→Prop:=Sg4 XN Jer
theorem JuD:∀ g,Jel g→Jm Tryz.prog 11 g:=by
 rintro _ ⟨a0,a1,a2,a3,r,H,rfl⟩
 refine xGnl mixed [3,8,12] [(20,Jf6)] [(21,true,J7),(24,false,JfP)] [(23,JfR),(22,JfQ),(23,Jeg),(22,Jei)] ⟨⟨JBn,JoO⟩,trivial⟩ ⟨JO,Jbh,trivial⟩ ⟨⟨JwK,Jne⟩,⟨Jwy,Jnh⟩,⟨JwK,Jkd⟩,⟨Jwy,JkI⟩,trivial⟩ Tryz.func11 _ ?_
 have G:=True.intro
 have Y:=xZ y_3 <| xZ y_24 <| xZ y_25 <| xZ y_27 <| xZ y_28 <| xZ y_29 <| xZ y_31 <| xZ y_35 <| xZ y_37 <| xZ y_39 <| xZ y_65 <| xZ Tryz.results11 <| xZ Jf.eq_1 <| xZ Jk.eq_1 <| xZ Ja.eq_1 <| xZ Je.eq_1 <| xZ Kw.eq_1 <| xZ J9.eq_1 <| xZ Vr.eq_1 <| xZ X5.eq_1 <| xZ Jcm.eq_1 <| xZ Jcg.eq_1 <| xZ Jan.eq_1 <| xZ Jab.eq_1 <| Jer.eq_1
 dsimp only[Jer]
 simp only[XN]at H
 refine xS ?_
 refine xr ?_
 obtain⟨r1,hr1,H⟩:=Ji H
 have F:=xC Y (Jst a0 r1 hr1)
 refine xR ?_
 refine xr ?_
 rcases xB Y G H with⟨p,H,F,G,q⟩|⟨p,H,F,G,q⟩
 ·refine xT ?_
  have F:=Y
  refine xP [0,1,2,3,4] [19] ⟨JO,Jbh,trivial⟩ ?_
  refine xsX 1 ?_
  refine xaX ?_
  refine xbX ?_
  refine xbX ?_
  refine xbX ?_
  refine xlX ?_
  replace H:=oI H
  refine xS ?_
  subst H
  refine xrD [] ?_
  exact xO ⟨[],[0]⟩
 refine xE0 ?_
 refine Jbd ?_
 refine Jl ?_
 refine Vl ?_
 refine JaS ?_
 refine Jp (Jbe a0 a1 a2 a3) (fun s=>[(0,.c (.d (.sl 2 (List.map Jf a0)))),(1,cI a1),(2,.c (.d (.sl 5 (List.map Je a2)))),(7,.c (.pt 1 0)),(8,.c (.pt 2 0)),(9,.c (.pt 3 0)),(10,.c (.pt 4 0)),(20,cB s)]) (fun s=>[[kI a3.Fuel,kI a3.Out,kI a3.Deep],[.sl 11 [] 0,.sl 1 [] 0],[.sl 5 [] 0],[kI 0,kI 0,kI 0]]) [] r ?_ ?_
 ·rcases xB Y G H with⟨p,H,F,G,q⟩|⟨p,H,F,G,q⟩
  ·refine xR ?_
   exact Jb H (xK ⟨[1,2,3,4],[]⟩)
  refine xR ?_
  exact Jb H (xK ⟨[1,2,3,4],[]⟩)
 rintro x1 H
 rw[Jbe]at H
 rcases xB Y G H with⟨p,H,F,G,q⟩|⟨p,H,F,G,q⟩
 ·refine xT ?_
  replace H:=oI H
  refine xr ?_
  subst H
  refine xrD [] ?_
  exact xO ⟨[],[0]⟩
 refine xE0 ?_
 refine Jp (Vt a0 a1 a2 a3) (fun s=>[(0,.c (.d (.sl 2 (List.map Jf a0)))),(1,cI a1),(2,.c (.d (.sl 5 (List.map Je a2)))),(7,.c (.pt 1 0)),(8,.c (.pt 2 0)),(9,.c (.pt 3 0)),(10,.c (.pt 4 0)),(31,cB s)]) (fun s=>[[kI a3.Fuel,kI a3.Out,kI a3.Deep],[.sl 11 [] 0,.sl 1 [] 0],[.sl 5 [] 0],[kI 0,kI 0,kI 0]]) [] r ?_ ?_
 ·rcases xB Y G H with⟨p,H,F,G,q⟩|⟨p,H,F,G,q⟩
  ·refine xR ?_
   exact Jb H (xK ⟨[1,2,3,4],[]⟩)
  rcases xB F G H with⟨p,H,F,G,q⟩|⟨p,H,F,G,q⟩
  ·refine xR ?_
   exact Jb H (xK ⟨[1,2,3,4],[]⟩)
  rcases xB F G H with⟨p,H,F,G,q⟩|⟨p,H,F,G,q⟩
  ·refine xR ?_
   exact Jb H (xK ⟨[1,2,3,4],[]⟩)
  rcases xB F G H with⟨p,H,F,G,q⟩|⟨p,H,F,G,q⟩
  ·refine xR ?_
   exact Jb H (xK ⟨[1,2,3,4],[]⟩)
  rcases xB F G H with⟨p,H,F,G,q⟩|⟨p,H,F,G,q⟩
  ·refine xR ?_
   exact Jb H (xK ⟨[1,2,3,4],[]⟩)
  refine xR ?_
  exact Jb H (xK ⟨[1,2,3,4],[]⟩)
 rintro x2 H
 rw[Vt]at H
 rcases xB Y G H with⟨p,H,F,G,q⟩|⟨p,H,F,G,q⟩
 ·refine xT ?_
  replace H:=oI H
  refine xr ?_
  subst H
  refine xrD [] ?_
  exact xO ⟨[],[0]⟩
 refine xE ?_
 obtain⟨r2,hr2,H⟩:=Ji H
 have F:=Y
 refine xP [0,1,2,3,4,5,6] [63] ⟨JO,Jbh,trivial⟩ ?_
 refine xsX 1 ?_
 refine xaX ?_
 refine xsX 1 ?_
 refine xcX ⟨[],[]⟩ (tabG 0 (cg1 hr2)) ?_
 refine xsX 1 ?_
 refine xbX ?_
 refine xsX 1 ?_
 refine xlX ?_
 refine xS ?_
 refine xfz 5 5 (List.map Je a2) [] ?_
 have F:=Y
 refine xQ ?_
 refine xs 1 ?_
 refine xw ?_
 refine xl ?_
 refine xS ?_
 have F:=Y
 refine xQ ?_
 refine xw ?_
 refine xl ?_
 refine xS ?_
 rcases Zy H with⟨r3,hr3,H⟩|⟨e1,hr4,H⟩
 ·have F:=Y
  refine xQ ?_
  refine xs 2 ?_
  refine xc ⟨[6,0],[0,0]⟩ (tabG 1 (cg10 hr3)) ?_
  refine xl ?_
  refine xS ?_
  refine xfz 9 11 (List.map Ja r3.2.2.2.2.2) [] ?_
  have F:=Y
  refine xP [0,1,2,3,4,5,6,7,8,9,10,11] [79] ⟨JO,Jbh,trivial⟩ ?_
  refine xsX 7 ?_
  refine xaX ?_
  refine xsX 1 ?_
  refine xbX ?_
  refine xbX ?_
  refine xbX ?_
  refine xlX ?_
  refine xS ?_
  refine xrD [(23,[.pt 4 0]),(22,[.pt 4 0,.pt 2 0,.pt 3 0])] ?_
  obtain⟨r4,hr5,H⟩:=Ji H
  refine xD ⟨[4],[]⟩ (tabD 0 (Jox 0 (-1) 0 r4 hr5)) ?_
  obtain⟨r5,hr6,H⟩:=Ji H
  refine xD ⟨[4,2,3],[11]⟩ (tabD 1 (JoQ 0 (-1) 0 r3.2.2.2.2.2 r3.2.2.2.1 r3.2.1 r5 none hr6)) ?_
  replace H:=oI H
  subst H
  exact xO ⟨[],[16]⟩
 have F:=Y
 refine xQp [69,70,71] ?_
 refine xs 2 ?_
 refine xp ⟨[6,0],[0,0]⟩ (tabG 1 (cg10 hr4)) ?_
 refine xS ?_
 refine xpD [(23,[.pt 4 0]),(22,[.pt 4 0,.pt 2 0,.pt 3 0])] ?_
 obtain⟨r6,hr7,H⟩:=Ji H
 refine xD ⟨[4],[]⟩ (tabD 2 (JlN 0 0 0 e1.1 e1.2.1 e1.2.2.1 r6 hr7)) ?_
 obtain⟨r7,hr8,H⟩:=Ji H
 refine xD ⟨[4,2,3],[0,0,0]⟩ (tabD 3 (JlQ e1.1 e1.2.1 e1.2.2.1 ([]:List Token) ([]:List Int) ([]:List Macro) r7 none hr8)) ?_
 replace H:=oI H
 subst H
 exact xO ⟨[],[17]⟩
theorem JlZ:Jc Tryz.prog 11∧(∀ g,Jel g→Jm Tryz.prog 11 g)∧(true=true→∀ g,Jel g→∃ val bs ts,g.out=.ret val bs ts) :=
 ⟨JBy,JuD,fun _=>by rintro _ ⟨_,_,_,_,_,_,rfl⟩; exact⟨_,_,_,rfl⟩⟩
end Go.Proofs.YtfkhlbhjhdpkoaaGreatDoor
