/- Functions of data for functions of the program. Written by dec3.py. -/
import Derived.Test.YtfkhlbhjhdpkoaaGreatDoorZqam
import Derived.Test.YtfkhlbhjhdpkoaaGreatDoorZqan
import Derived.Test.YtfkhlbhjhdpkoaaGreatDoorZqbh
import Derived.Test.YtfkhlbhjhdpkoaaGreatDoorZqbi
import Derived.Test.YtfkhlbhjhdpkoaaGreatDoorZqbj
set_option linter.unusedVariables false
set_option linter.unusedSimpArgs false
set_option maxHeartbeats 4000000
set_option maxRecDepth 100000
namespace Go.Proofs.YtfkhlbhjhdpkoaaGreatDoor
open Go.RowKit
noncomputable def Jdx(a0:Fault):Option (GR Unit Unit) :=
 if(!eqI a0.Err 0)=true then some (.er ()) else some (.ok ())
def JuB(a0:Fault):GR Unit Unit→GOut
 | .ok r=>.ret (.tu []) [] []
 | .er r=>.pan (.iface 78 (.agg ⟨[.int .i64 a0.Err,.int .i64 a0.File,.int .i64 a0.At]⟩)) [] []
def JbH(a0:Fault)(r:GR Unit Unit):GI :=
 ⟨[.ag [kI a0.Err,kI a0.File,kI a0.At]],[],[],JuB a0 r⟩
def JbR:GI→Prop:=Sg1 Jdx JbH
theorem Jud:∀ g,JbR g→Jm Tryz.prog 33 g:=by
 rintro _ ⟨a0,r,H,rfl⟩
 refine xGn mixed [] [] [] trivial trivial trivial Tryz.func33 _ ?_
 have G:=True.intro
 have Y:=xZ y_29 <| xZ y_31 <| xZ y_78 <| xZ Tryz.results33 <| xZ JU.eq_1 <| JbH.eq_1
 dsimp only[JbH]
 simp only[Jdx]at H
 refine xS ?_
 refine xr ?_
 refine xr ?_
 rcases xB Y G H with⟨p,H,F,G,q⟩|⟨p,H,F,G,q⟩
 ·refine xT ?_
  have F:=Y
  refine xQp [5,6,7] ?_
  refine xs 3 ?_
  refine xv ?_
  replace H:=oI H
  refine xS ?_
  subst H
  refine xpD [] ?_
  exact xOv ⟨[],[]⟩
 replace H:=oI H
 refine xE ?_
 subst H
 refine xnD [] ?_
 exact xO ⟨[],[]⟩
theorem JbE:Jd Tryz.prog 33∧(∀ g,JbR g→Jm Tryz.prog 33 g)∧(false=true→∀ g,JbR g→∃ val bs ts,g.out=.ret val bs ts) :=
 ⟨JCQ,Jud,nofun⟩
noncomputable def Jfw(a0:drive_group):Option Bool :=
 some (!a0.on_)
noncomputable def JfC:PF:=PF.of (E1 Jk) (fun a=>Jfw a) dB
theorem JnD:JB Tryz.prog 53 JfC:=by
 refine xF mixed [] [] trivial trivial Tryz.func53 ?_
 rintro a0 out H
 have G:=True.intro
 have Y:=xZ y_4 <| xZ y_90 <| xZ Tryz.results53 <| xZ Jl.eq_1 <| xZ Ja.eq_1 <| Jk.eq_1
 simp only[Jfw]at H
 refine xS ?_
 refine xr ?_
 replace H:=oI H
 refine xr ?_
 subst H
 exact xN
theorem Jpo(a0:drive_group)(r:Bool)(H:Jfw a0=some r):PC JfC [Jk a0] (dB r):=PF.c (a:=a0) H
noncomputable def Zq(a0:List Token)(a1:List Source)(a2 a3 a4:Int)(a5:List Macro)(a6 a7:List Int)(a8:Int)(a9:List Token):Option (GR YZ YT) :=
 (Jgb a1 a5 a0 a2 a3).bind fun r1=>grB (Jdx r1.2.2) (fun r2=>some (.ok (r1.1,r1.2.1))) (fun e1=>some (.er (r1.2.2.Err,r1.2.2.File,r1.2.2.At)))
def JjF(a0:List Token)(a1:List Source)(a2 a3 a4:Int)(a5:List Macro)(a6 a7:List Int)(a8:Int)(a9:List Token):GR YZ YT→GOut
 | .ok r=>.ret (.c (.d (.sl 11 (List.map Ja r.1)))) [[.d (.sl 2 (List.map Jg a1)),kI r.2,kI a3,kI a4,.d (.sl 5 (List.map Jf a5)),.sl 1 (List.map dI a6) 3,.os 2 11 0 a9.length,.sl 1 (List.map dI a7) 4,kI a8],[.arr 11 (List.map Ja a9)]] [3,3]
 | .er r=>.pan (.iface 78 (.agg ⟨[.int .i64 r.1,.int .i64 r.2.1,.int .i64 r.2.2]⟩)) [[.d (.sl 2 (List.map Jg a1)),kI a2,kI a3,kI a4,.d (.sl 5 (List.map Jf a5)),.sl 1 (List.map dI a6) 3,.os 2 11 0 a9.length,.sl 1 (List.map dI a7) 4,kI a8],[.arr 11 (List.map Ja a9)]] [3,3]
def Xt(a0:List Token)(a1:List Source)(a2 a3 a4:Int)(a5:List Macro)(a6 a7:List Int)(a8:Int)(a9:List Token)(r:GR YZ YT):GI :=
 ⟨[.c (.pt 1 0),.c (.d (.sl 11 (List.map Ja a0)))],[[.d (.sl 2 (List.map Jg a1)),kI a2,kI a3,kI a4,.d (.sl 5 (List.map Jf a5)),.sl 1 (List.map dI a6) 3,.os 2 11 0 a9.length,.sl 1 (List.map dI a7) 4,kI a8],[.arr 11 (List.map Ja a9)]],[3,3],JjF a0 a1 a2 a3 a4 a5 a6 a7 a8 a9 r⟩
def Xo:GI→Prop:=Sg10 Zq Xt
theorem Jjc:∀ g,Xo g→Jm Tryz.prog 54 g:=by
 rintro _ ⟨a0,a1,a2,a3,a4,a5,a6,a7,a8,a9,r,H,rfl⟩
 refine xGn mixed [(78,Jhz)] [(33,false,JbR)] [] ⟨⟨JDz,Jt9⟩,trivial⟩ ⟨JbE,trivial⟩ trivial Tryz.func54 _ ?_
 have G:=True.intro
 have Y:=xZ y_3 <| xZ y_28 <| xZ y_31 <| xZ y_37 <| xZ y_39 <| xZ y_65 <| xZ Tryz.results54 <| xZ Jg.eq_1 <| xZ Jl.eq_1 <| xZ Ja.eq_1 <| xZ Jf.eq_1 <| xZ Ku.eq_1 <| xZ JU.eq_1 <| xZ JbH.eq_1 <| Xt.eq_1
 dsimp only[Xt]
 simp only[Zq]at H
 refine xS ?_
 refine xr ?_
 obtain⟨r1,hr1,H⟩:=Ji H
 have F:=xC Y (Jwt a1 a5 a0 a2 a3 r1 hr1)
 refine xR ?_
 rcases Z3 H with⟨r2,hr2,H⟩|⟨e1,hr3,H⟩
 ·have F:=Y
  refine xQ ?_
  refine xs 1 ?_
  refine xc ⟨[],[]⟩ (tabG 0 (cg1 hr2)) ?_
  refine xl ?_
  refine xS ?_
  refine xr ?_
  replace H:=oI H
  refine xr ?_
  subst H
  refine xrD [] ?_
  exact xO ⟨[1,2],[3,4]⟩
 have F:=Y
 refine xQp [32,33] ?_
 refine xs 1 ?_
 refine xp ⟨[],[]⟩ (tabG 0 (cg1 hr3)) ?_
 replace H:=oI H
 refine xS ?_
 subst H
 refine xpD [] ?_
 exact xOv ⟨[1,2],[3,4]⟩
theorem Vp:Jd Tryz.prog 54∧(∀ g,Xo g→Jm Tryz.prog 54 g)∧(false=true→∀ g,Xo g→∃ val bs ts,g.out=.ret val bs ts) :=
 ⟨JDD,Jjc,nofun⟩
noncomputable def JeD(a0:Int)(a1:Token):Option Unit :=
 some ()
def Jej(a0:Int)(a1:Token)(r:Unit):GI :=
 ⟨[cI a0,.c (.pp (List.drop 0 (Ja a1).cells))],[],[],.pan (.iface 78 (.agg ⟨[.int .i64 a0,.int .i64 a1.File,.int .i64 a1.At]⟩)) [] []⟩
def Jek:GI→Prop:=Sg2 JeD Jej
theorem Jt0:∀ g,Jek g→Jm Tryz.prog 39 g:=by
 rintro _ ⟨a0,a1,r,H,rfl⟩
 refine xGn mixed [] [] [] trivial trivial trivial Tryz.func39 _ ?_
 have G:=True.intro
 have Y:=xZ y_3 <| xZ y_29 <| xZ y_31 <| xZ y_44 <| xZ y_78 <| xZ Tryz.results39 <| xZ Jl.eq_1 <| xZ Ja.eq_1 <| Jej.eq_1
 dsimp only[Jej]
 unfold JeD at H
 have F:=Y
 refine xQp [4,5,6,7,8,9,10,11,12,13,14,15] ?_
 refine xs 12 ?_
 refine xv ?_
 refine xS ?_
 refine xpD [] ?_
 exact xOv ⟨[],[]⟩
theorem Jf5:Jd Tryz.prog 39∧(∀ g,Jek g→Jm Tryz.prog 39 g)∧(false=true→∀ g,Jek g→∃ val bs ts,g.out=.ret val bs ts) :=
 ⟨JDu,Jt0,nofun⟩
noncomputable def KZ(a0:List Token)(a1:List Source)(a2 a3 a4:Int)(a5:List Macro)(a6 a7:List Int)(a8:Int)(a9:List Token):Option (GR Yz YO) :=
 if(eqI (a0.length:Int) 0)=true then some (.ok (a2,a9)) else grB (Zq a0 a1 a2 a3 a4 a5 a6 a7 a8 a9) (fun r1=>if(a9.length+r1.1.length) * 120≤140737488355328 then if(ltI a3 ((a9.length+r1.1.length:Nat):Int))=true then if 0<a0.length then(JeD 4 (a0.getD 0 default)).bind fun e2=>some (.er (4,(a0.getD 0 default).File,(a0.getD 0 default).At,r1.2,a9++r1.1)) else none else some (.ok (r1.2,a9++r1.1)) else none) (fun e1=>some (.er (e1.1,e1.2.1,e1.2.2,a2,a9)))
def Jky(a0:List Token)(a1:List Source)(a2 a3 a4:Int)(a5:List Macro)(a6 a7:List Int)(a8:Int)(a9:List Token):GR Yz YO→GOut
 | .ok r=>.ret (.tu []) [[.d (.sl 2 (List.map Jg a1)),kI r.1,kI a3,kI a4,.d (.sl 5 (List.map Jf a5)),.sl 1 (List.map dI a6) 4,.os 3 11 0 r.2.length,.sl 1 (List.map dI a7) 5,kI a8],[],[.arr 11 (List.map Ja r.2)]] [3,3]
 | .er r=>.pan (.iface 78 (.agg ⟨[.int .i64 r.1,.int .i64 r.2.1,.int .i64 r.2.2.1]⟩)) [[.d (.sl 2 (List.map Jg a1)),kI r.2.2.2.1,kI a3,kI a4,.d (.sl 5 (List.map Jf a5)),.sl 1 (List.map dI a6) 4,.os 3 11 0 r.2.2.2.2.length,.sl 1 (List.map dI a7) 5,kI a8],[],[.arr 11 (List.map Ja r.2.2.2.2)]] [3,3]
def Ja4(a0:List Token)(a1:List Source)(a2 a3 a4:Int)(a5:List Macro)(a6 a7:List Int)(a8:Int)(a9:List Token)(r:GR Yz YO):GI :=
 ⟨[.c (.pt 1 0),.c (.d (.sl 11 (List.map Ja a0)))],[[.d (.sl 2 (List.map Jg a1)),kI a2,kI a3,kI a4,.d (.sl 5 (List.map Jf a5)),.sl 1 (List.map dI a6) 3,.os 2 11 0 a9.length,.sl 1 (List.map dI a7) 4,kI a8],[.arr 11 (List.map Ja a9)]],[3,3],Jky a0 a1 a2 a3 a4 a5 a6 a7 a8 a9 r⟩
def Ja6:GI→Prop:=Sg10 KZ Ja4
theorem JjE:∀ g,Ja6 g→Jm Tryz.prog 36 g:=by
 rintro _ ⟨a0,a1,a2,a3,a4,a5,a6,a7,a8,a9,r,H,rfl⟩
 refine xGnl mixed [1] [] [(54,false,Xo),(39,false,Jek)] [] trivial ⟨Vp,Jf5,trivial⟩ trivial Tryz.func36 _ ?_
 have G:=True.intro
 have Y:=xZ y_3 <| xZ y_24 <| xZ y_27 <| xZ y_39 <| xZ y_44 <| xZ y_65 <| xZ Tryz.results36 <| xZ Jg.eq_1 <| xZ Jl.eq_1 <| xZ Ja.eq_1 <| xZ Jf.eq_1 <| xZ Ku.eq_1 <| xZ Xt.eq_1 <| xZ Jej.eq_1 <| Ja4.eq_1
 dsimp only[Ja4]
 simp only[KZ]at H
 refine xS ?_
 refine xrn 2 1 ?_
 refine xr ?_
 rcases xB Y G H with⟨p,H,F,G,q⟩|⟨p,H,F,G,q⟩
 ·replace H:=oI H
  refine xT ?_
  subst H
  refine xrD [] ?_
  exact xO ⟨[1,2,5],[3,4]⟩
 refine xE ?_
 rcases Z3 H with⟨r1,hr1,H⟩|⟨e1,hr2,H⟩
 ·have F:=Y
  obtain⟨g,H⟩:=Jc H
  have F:=xZ F (JH KL r1.1)
  have A:=JH KL r1.1
  refine xP [0,1,2,3,4,5,6,7,8,9,10,11,12,13] [12,888888] ⟨Vp,Jf5,trivial⟩ ?_
  refine xsX 5 ?_
  refine xaX ?_
  refine xsX 2 ?_
  refine xcX ⟨[1,5],[3,4]⟩ (tabG 0 (cg10 hr1)) ?_
  refine xbX ?_
  refine xsX 4 ?_
  refine xlX ?_
  refine xS ?_
  refine xr ?_
  rcases xB Y G H with⟨p,H,F,G,q⟩|⟨p,H,F,G,q⟩
  ·refine xT ?_
   obtain⟨g,H⟩:=Jc H
   have F:=xZ Y (Jh Ja a0 0 default default (by omega))
   obtain⟨e2,hr4,H⟩:=Ji H
   have F:=F
   refine xQp [32,33,34] ?_
   refine xs 2 ?_
   refine xp ⟨[],[]⟩ (tabG 1 (cg2 hr4)) ?_
   replace H:=oI H
   refine xS ?_
   subst H
   refine xpD [] ?_
   exact xOv ⟨[1,2,10],[8,9]⟩
  replace H:=oI H
  refine xE ?_
  subst H
  refine xnD [] ?_
  exact xO ⟨[1,2,10],[8,9]⟩
 have F:=Y
 refine xPp [7,8,9,10,11,12,13,14,15,16,17,18,19] [0,1,2,3,4,5,6,7,8,9,10,11,12,13] [12,888888] ⟨Vp,Jf5,trivial⟩ ?_
 refine xsX 5 ?_
 refine xaX ?_
 refine xsX 2 ?_
 refine xpX ⟨[1,5],[3,4]⟩ (tabG 0 (cg10 hr2)) ?_
 replace H:=oI H
 refine xS ?_
 subst H
 refine xpD [] ?_
 exact xOv ⟨[1,2,5],[8,9]⟩
theorem JjY:Jd Tryz.prog 36∧(∀ g,Ja6 g→Jm Tryz.prog 36 g)∧(false=true→∀ g,Ja6 g→∃ val bs ts,g.out=.ret val bs ts) :=
 ⟨JCO,JjE,nofun⟩
noncomputable def Xx:Bool→Option Bool
 | x1=>some x1
noncomputable def Jcb(a0:List UInt8)(a1:List Source)(a2 a3 a4:Int)(a5:List Macro)(a6 a7:List Int)(a8:Int)(a9:List Token):Option Bool :=
 (V9 a5 a0).bind fun r1=>if(leI 0 r1)=true then Xx true else if(eqS a0 [95,95,76,73,78,69,95,95])=true then Xx true else Xx (eqS a0 [95,95,70,73,76,69,95,95])
def XW(a0:List UInt8)(a1:List Source)(a2 a3 a4:Int)(a5:List Macro)(a6 a7:List Int)(a8:Int)(a9:List Token)(r:Bool):GI :=
 ⟨[.c (.pt 1 0),cS a0],[[.d (.sl 2 (List.map Jg a1)),kI a2,kI a3,kI a4,.d (.sl 5 (List.map Jf a5)),.sl 1 (List.map dI a6) 3,.os 2 11 0 a9.length,.sl 1 (List.map dI a7) 4,kI a8],[.arr 11 (List.map Ja a9)]],[3,3],.ret (cB r) [[.d (.sl 2 (List.map Jg a1)),kI a2,kI a3,kI a4,.d (.sl 5 (List.map Jf a5)),.sl 1 (List.map dI a6) 3,.os 2 11 0 a9.length,.sl 1 (List.map dI a7) 4,kI a8],[.arr 11 (List.map Ja a9)]] [3,3]⟩
def XR:GI→Prop:=Sg10 Jcb XW
theorem Jjk:∀ g,XR g→Jm Tryz.prog 81 g:=by
 rintro _ ⟨a0,a1,a2,a3,a4,a5,a6,a7,a8,a9,r,H,rfl⟩
 refine xGn mixed [(86,JdN)] [] [] ⟨⟨Jqq,Jhy⟩,trivial⟩ trivial trivial Tryz.func81 _ ?_
 have G:=True.intro
 have Y:=xZ y_28 <| xZ y_65 <| xZ Tryz.results81 <| xZ Jg.eq_1 <| xZ Jl.eq_1 <| xZ Ja.eq_1 <| xZ Jf.eq_1 <| xZ Ku.eq_1 <| XW.eq_1
 dsimp only[XW]
 simp only[Jcb]at H
 refine xS ?_
 refine xr0 ?_
 refine Jj ?_
 refine Jn Xx (fun s=>[(4,cB s)]) (fun s=>[[.d (.sl 2 (List.map Jg a1)),kI a2,kI a3,kI a4,.d (.sl 5 (List.map Jf a5)),.sl 1 (List.map dI a6) 3,.os 2 11 0 a9.length,.sl 1 (List.map dI a7) 4,kI a8],[.arr 11 (List.map Ja a9)]]) [3,3] r ?_ ?_
 ·obtain⟨r1,hr1,H⟩:=Ji H
  have F:=xC Y (Jh4 a5 a0 r1 hr1)
  rcases xB F G H with⟨p,H,F,G,q⟩|⟨p,H,F,G,q⟩
  ·refine xR ?_
   exact Jb H (xK ⟨[1,2],[3,4]⟩)
  rcases xB F G H with⟨p,H,F,G,q⟩|⟨p,H,F,G,q⟩
  ·refine xR ?_
   exact Jb H (xK ⟨[1,2],[3,4]⟩)
  refine xR ?_
  exact Jb H (xK ⟨[1,2],[3,4]⟩)
 rintro x1 H
 rw[Xx]at H
 replace H:=oI H
 refine xS ?_
 subst H
 refine xrD [] ?_
 exact xO ⟨[1,2],[3,4]⟩
theorem Jbf:Jd Tryz.prog 81∧(∀ g,XR g→Jm Tryz.prog 81 g)∧(true=true→∀ g,XR g→∃ val bs ts,g.out=.ret val bs ts) :=
 ⟨JD2,Jjk,fun _=>by rintro _ ⟨_,_,_,_,_,_,_,_,_,_,_,_,rfl⟩; exact⟨_,_,_,rfl⟩⟩
noncomputable def Ze:YO→Option YC
 | (x3,x4)=>some (.inl (IntKind.i64.wrap (x3+1),x4))
noncomputable def Zp(x2:List Token)(x8 x9:Bool)(x10 x11 x12 x13:Int)(x14:List (List UInt8))(x15:List Call)(x16:Int)(x22:List UInt8):Int→Option YC
 | x23=>if(x2.length + [(⟨2,x22,x8,x9,x10,x11,x12,x13,x14,x15,x16⟩:Token)].length) * 120≤140737488355328 then Ze (x23,x2++[(⟨2,x22,x8,x9,x10,x11,x12,x13,x14,x15,x16⟩:Token)]) else none
noncomputable def Zl(x2:List Token)(x8 x9:Bool)(x10 x11 x12 x13:Int)(x14:List (List UInt8))(x15:List Call)(x16:Int)(x22:List UInt8):(Int×Bool)→Option YC
 | (x24,x25)=>if x25=true then none else Zp x2 x8 x9 x10 x11 x12 x13 x14 x15 x16 x22 x24
noncomputable def Zn(a0 x2:List Token)(x8 x9:Bool)(x10 x11 x12 x13:Int)(x14:List (List UInt8))(x15:List Call)(x16:Int)(x19:Bool)(x20:Int):(List UInt8)→Option YC
 | x22=>if x19=true then if(leI (a0.length:Int) (IntKind.i64.wrap (x20+1)))=true then Zl x2 x8 x9 x10 x11 x12 x13 x14 x15 x16 x22 (IntKind.i64.wrap (x20+1),true) else if(0:Int)≤(IntKind.i64.wrap (x20+1))∧(IntKind.i64.wrap (x20+1)).toNat<a0.length then Zl x2 x8 x9 x10 x11 x12 x13 x14 x15 x16 x22 (IntKind.i64.wrap (x20+1),!eqS ((a0.getD ((IntKind.i64.wrap (x20+1)).toNat) default).Text) [41]) else none else Zp x2 x8 x9 x10 x11 x12 x13 x14 x15 x16 x22 x20
noncomputable def Zd(a0:List Token)(a1:List Source)(a2 a3 a4:Int)(a5:List Macro)(a6 a7:List Int)(a8:Int)(a9 x2:List Token)(x8 x9:Bool)(x10 x11 x12 x13:Int)(x14:List (List UInt8))(x15:List Call)(x16:Int)(x19:Bool):(Int×Bool)→Option YC
 | (x20,x21)=>if x21=true then none else if(0:Int)≤x20∧x20.toNat<a0.length then(Jcb ((a0.getD x20.toNat default).Text) a1 a2 a3 a4 a5 a6 a7 a8 a9).bind fun r1=>if r1=true then Zn a0 x2 x8 x9 x10 x11 x12 x13 x14 x15 x16 x19 x20 [49] else Zn a0 x2 x8 x9 x10 x11 x12 x13 x14 x15 x16 x19 x20 [48] else none
noncomputable def Zh(a0:List Token)(a1:List Source)(a2 a3 a4:Int)(a5:List Macro)(a6 a7:List Int)(a8:Int)(a9 x2:List Token)(x8 x9:Bool)(x10 x11 x12 x13:Int)(x14:List (List UInt8))(x15:List Call)(x16:Int):(Int×Bool)→Option YC
 | (x18,x19)=>if(leI (a0.length:Int) (IntKind.i64.wrap (x18+1)))=true then Zd a0 a1 a2 a3 a4 a5 a6 a7 a8 a9 x2 x8 x9 x10 x11 x12 x13 x14 x15 x16 x19 (IntKind.i64.wrap (x18+1),true) else if(0:Int)≤(IntKind.i64.wrap (x18+1))∧(IntKind.i64.wrap (x18+1)).toNat<a0.length then Zd a0 a1 a2 a3 a4 a5 a6 a7 a8 a9 x2 x8 x9 x10 x11 x12 x13 x14 x15 x16 x19 (IntKind.i64.wrap (x18+1),!eqI ((a0.getD ((IntKind.i64.wrap (x18+1)).toNat) default).Kind) 1) else none
noncomputable def Zf(a0:List Token)(a1:List Source)(a2 a3 a4:Int)(a5:List Macro)(a6 a7:List Int)(a8:Int)(a9:List Token)(x1:Int)(x2:List Token)(x8 x9:Bool)(x10 x11 x12 x13:Int)(x14:List (List UInt8))(x15:List Call)(x16:Int):Bool→Option YC
 | x17=>if x17=true then Zh a0 a1 a2 a3 a4 a5 a6 a7 a8 a9 x2 x8 x9 x10 x11 x12 x13 x14 x15 x16 (IntKind.i64.wrap (x1+1),true) else Zh a0 a1 a2 a3 a4 a5 a6 a7 a8 a9 x2 x8 x9 x10 x11 x12 x13 x14 x15 x16 (x1,false)
noncomputable def Zk(a0:List Token)(a1:List Source)(a2 a3 a4:Int)(a5:List Macro)(a6 a7:List Int)(a8:Int)(a9:List Token)(x1:Int)(x2:List Token):Ye→Option YC
 | (x5,x6,x7,x8,x9,x10,x11,x12,x13,x14,x15,x16)=>if x5=true then if(x2.length + [(⟨x6,x7,x8,x9,x10,x11,x12,x13,x14,x15,x16⟩:Token)].length) * 120≤140737488355328 then Ze (x1,x2++[(⟨x6,x7,x8,x9,x10,x11,x12,x13,x14,x15,x16⟩:Token)]) else none else if(ltI (IntKind.i64.wrap (x1+1)) (a0.length:Int))=true then if(0:Int)≤(IntKind.i64.wrap (x1+1))∧(IntKind.i64.wrap (x1+1)).toNat<a0.length then Zf a0 a1 a2 a3 a4 a5 a6 a7 a8 a9 x1 x2 x8 x9 x10 x11 x12 x13 x14 x15 x16 (eqS ((a0.getD ((IntKind.i64.wrap (x1+1)).toNat) default).Text) [40]) else none else Zf a0 a1 a2 a3 a4 a5 a6 a7 a8 a9 x1 x2 x8 x9 x10 x11 x12 x13 x14 x15 x16 false
noncomputable def Jb1(a0:List Token)(a1:List Source)(a2 a3 a4:Int)(a5:List Macro)(a6 a7:List Int)(a8:Int)(a9:List Token):YO→Option YC
 | (x1,x2)=>if(ltI x1 (a0.length:Int))=true then if(0:Int)≤x1∧x1.toNat<a0.length then if(!eqS ((a0.getD x1.toNat default).Text) [100,101,102,105,110,101,100])=true then Zk a0 a1 a2 a3 a4 a5 a6 a7 a8 a9 x1 x2 (true,(a0.getD x1.toNat default).Kind,(a0.getD x1.toNat default).Text,(a0.getD x1.toNat default).Space,(a0.getD x1.toNat default).First,(a0.getD x1.toNat default).File,(a0.getD x1.toNat default).At,(a0.getD x1.toNat default).End,(a0.getD x1.toNat default).Line,(a0.getD x1.toNat default).Hide,(a0.getD x1.toNat default).Calls,(a0.getD x1.toNat default).Made) else Zk a0 a1 a2 a3 a4 a5 a6 a7 a8 a9 x1 x2 (!eqI ((a0.getD x1.toNat default).Kind) 1,(a0.getD x1.toNat default).Kind,(a0.getD x1.toNat default).Text,(a0.getD x1.toNat default).Space,(a0.getD x1.toNat default).First,(a0.getD x1.toNat default).File,(a0.getD x1.toNat default).At,(a0.getD x1.toNat default).End,(a0.getD x1.toNat default).Line,(a0.getD x1.toNat default).Hide,(a0.getD x1.toNat default).Calls,(a0.getD x1.toNat default).Made) else none else inrO (some x2)
noncomputable def Jdu(a0:List Token)(a1:List Source)(a2 a3 a4:Int)(a5:List Macro)(a6 a7:List Int)(a8:Int)(a9:List Token):Option (List Token) :=
 Jv (Jb1 a0 a1 a2 a3 a4 a5 a6 a7 a8 a9) (0,([]:List Token))
def ZT(a0:List Token)(a1:List Source)(a2 a3 a4:Int)(a5:List Macro)(a6 a7:List Int)(a8:Int)(a9:List Token)(r:(List Token)):GI :=
 ⟨[.c (.pt 1 0),.c (.d (.sl 11 (List.map Ja a0)))],[[.d (.sl 2 (List.map Jg a1)),kI a2,kI a3,kI a4,.d (.sl 5 (List.map Jf a5)),.sl 1 (List.map dI a6) 3,.os 2 11 0 a9.length,.sl 1 (List.map dI a7) 4,kI a8],[.arr 11 (List.map Ja a9)]],[3,3],.ret (.c (.d (.sl 11 (List.map Ja r)))) [[.d (.sl 2 (List.map Jg a1)),kI a2,kI a3,kI a4,.d (.sl 5 (List.map Jf a5)),.sl 1 (List.map dI a6) 3,.os 2 11 0 a9.length,.sl 1 (List.map dI a7) 4,kI a8],[.arr 11 (List.map Ja a9)]] [3,3]⟩
def ZN:GI→Prop:=Sg10 Jdu ZT
theorem JiF:∀ g,ZN g→Jm Tryz.prog 80 g:=by
 rintro _ ⟨a0,a1,a2,a3,a4,a5,a6,a7,a8,a9,r,H,rfl⟩
 refine xGn mixed [] [(81,true,XR)] [] trivial ⟨Jbf,trivial⟩ trivial Tryz.func80 _ ?_
 have G:=True.intro
 have Y:=xZ y_3 <| xZ y_9 <| xZ y_24 <| xZ y_44 <| xZ Tryz.results80 <| xZ Jg.eq_1 <| xZ Jl.eq_1 <| xZ Ja.eq_1 <| xZ Jf.eq_1 <| xZ Ku.eq_1 <| xZ XW.eq_1 <| ZT.eq_1
 dsimp only[ZT]
 simp only[Jdu]at H
 refine xS ?_
 refine xr ?_
 refine xr ?_
 refine xr ?_
 refine JG (Jb1 a0 a1 a2 a3 a4 a5 a6 a7 a8 a9) (fun s=>[(0,.c (.pt 1 0)),(1,.c (.d (.sl 11 (List.map Ja a0)))),(5,.c (.os 3 11 0 s.2.length)),(6,cI s.1)]) (fun s=>[[.d (.sl 2 (List.map Jg a1)),kI a2,kI a3,kI a4,.d (.sl 5 (List.map Jf a5)),.sl 1 (List.map dI a6) 4,.os 2 11 0 a9.length,.sl 1 (List.map dI a7) 5,kI a8],[.arr 11 (List.map Ja a9)],[.arr 11 (List.map Ja s.2)]]) [3,3] H (xK ⟨[1,2,0],[3,4]⟩) ?_
 rintro n1 ⟨x1,x2⟩ o1 H hF1
 rw[Jb1]at H
 refine xS ?_
 refine xr ?_
 rcases xB Y G H with⟨p,H,F,G,q⟩|⟨p,H,F,G,q⟩
 ·refine xT0 ?_
  refine VA ?_
  refine Jj ?_
  refine Jn Ze (fun s=>[(0,.c (.pt 1 0)),(1,.c (.d (.sl 11 (List.map Ja a0)))),(5,.c (.os 3 11 0 s.2.length)),(6,cI s.1)]) (fun s=>[[.d (.sl 2 (List.map Jg a1)),kI a2,kI a3,kI a4,.d (.sl 5 (List.map Jf a5)),.sl 1 (List.map dI a6) 4,.os 2 11 0 a9.length,.sl 1 (List.map dI a7) 5,kI a8],[.arr 11 (List.map Ja a9)],[.arr 11 (List.map Ja s.2)]]) [3,3] o1 ?_ ?_
  ·refine xS ?_
   obtain⟨g,H⟩:=Jc H
   have F:=xZ Y (Jh Ja a0 x1.toNat default default (by omega))
   refine xR0 ?_
   refine Jj ?_
   refine Kf ?_
   refine Jn (Zk a0 a1 a2 a3 a4 a5 a6 a7 a8 a9 x1 x2) (fun s=>[(0,.c (.pt 1 0)),(1,.c (.d (.sl 11 (List.map Ja a0)))),(5,.c (.os 3 11 0 x2.length)),(6,cI x1),(7,.c (.pt 4 0)),(27,cB s.1)]) (fun s=>[[.d (.sl 2 (List.map Jg a1)),kI a2,kI a3,kI a4,.d (.sl 5 (List.map Jf a5)),.sl 1 (List.map dI a6) 5,.os 2 11 0 a9.length,.sl 1 (List.map dI a7) 6,kI a8],[.arr 11 (List.map Ja a9)],[.arr 11 (List.map Ja x2)],[kI s.2.1,kS s.2.2.1,kB s.2.2.2.1,kB s.2.2.2.2.1,kI s.2.2.2.2.2.1,kI s.2.2.2.2.2.2.1,kI s.2.2.2.2.2.2.2.1,kI s.2.2.2.2.2.2.2.2.1,.d (.sl 1 (List.map dS s.2.2.2.2.2.2.2.2.2.1)),.d (.sl 3 (List.map Jl s.2.2.2.2.2.2.2.2.2.2.1)),kI s.2.2.2.2.2.2.2.2.2.2.2]]) [3,3] o1 ?_ ?_
   ·rcases xB Y G H with⟨p,H,F,G,q⟩|⟨p,H,F,G,q⟩
    ·refine xR ?_
     exact Jb H (xK ⟨[1,2,3,6],[4,5]⟩)
    refine xR ?_
    exact Jb H (xK ⟨[1,2,3,6],[4,5]⟩)
   rintro ⟨x5,x6,x7,x8,x9,x10,x11,x12,x13,x14,x15,x16⟩ H
   rw[Zk]at H
   rcases xB Y G H with⟨p,H,F,G,q⟩|⟨p,H,F,G,q⟩
   ·refine xT ?_
    obtain⟨g,H⟩:=Jc H
    have F:=xZ Y (JH KL [(⟨x6,x7,x8,x9,x10,x11,x12,x13,x14,x15,x16⟩:Token)])
    have L:[(⟨x6,x7,x8,x9,x10,x11,x12,x13,x14,x15,x16⟩:Token)].length=1:=rfl
    refine xR ?_
    exact Jb H (xK ⟨[1,2,7],[5,6]⟩)
   refine xE0 ?_
   refine VA ?_
   refine Jj ?_
   refine Jn (Zf a0 a1 a2 a3 a4 a5 a6 a7 a8 a9 x1 x2 x8 x9 x10 x11 x12 x13 x14 x15 x16) (fun s=>[(0,.c (.pt 1 0)),(1,.c (.d (.sl 11 (List.map Ja a0)))),(5,.c (.os 3 11 0 x2.length)),(6,cI x1),(7,.c (.pt 4 0)),(8,cB s)]) (fun s=>[[.d (.sl 2 (List.map Jg a1)),kI a2,kI a3,kI a4,.d (.sl 5 (List.map Jf a5)),.sl 1 (List.map dI a6) 5,.os 2 11 0 a9.length,.sl 1 (List.map dI a7) 6,kI a8],[.arr 11 (List.map Ja a9)],[.arr 11 (List.map Ja x2)],[kI x6,kS x7,kB x8,kB x9,kI x10,kI x11,kI x12,kI x13,.d (.sl 1 (List.map dS x14)),.d (.sl 3 (List.map Jl x15)),kI x16]]) [3,3] o1 ?_ ?_
   ·rcases xB Y G H with⟨p,H,F,G,q⟩|⟨p,H,F,G,q⟩
    ·obtain⟨g,H⟩:=Jc H
     have F:=xZ F (Jh Ja a0 ((IntKind.i64.wrap (x1+1)).toNat) default default (by omega))
     refine xR ?_
     exact Jb H (xK ⟨[1,2,3,4],[5,6]⟩)
    refine xR ?_
    exact Jb H (xK ⟨[1,2,3,4],[5,6]⟩)
   rintro x17 H
   rw[Zf]at H
   refine Jn (Zh a0 a1 a2 a3 a4 a5 a6 a7 a8 a9 x2 x8 x9 x10 x11 x12 x13 x14 x15 x16) (fun s=>[(0,.c (.pt 1 0)),(1,.c (.d (.sl 11 (List.map Ja a0)))),(5,.c (.os 3 11 0 x2.length)),(6,cI s.1),(7,.c (.pt 4 0)),(8,cB s.2)]) (fun s=>[[.d (.sl 2 (List.map Jg a1)),kI a2,kI a3,kI a4,.d (.sl 5 (List.map Jf a5)),.sl 1 (List.map dI a6) 5,.os 2 11 0 a9.length,.sl 1 (List.map dI a7) 6,kI a8],[.arr 11 (List.map Ja a9)],[.arr 11 (List.map Ja x2)],[kI x6,kS x7,kB x8,kB x9,kI x10,kI x11,kI x12,kI x13,.d (.sl 1 (List.map dS x14)),.d (.sl 3 (List.map Jl x15)),kI x16]]) [3,3] o1 ?_ ?_
   ·refine xS ?_
    refine xr ?_
    rcases xB Y G H with⟨p,H,F,G,q⟩|⟨p,H,F,G,q⟩
    ·refine xT ?_
     refine xr ?_
     exact Jb H (xK ⟨[1,2,3,4],[5,6]⟩)
    refine xE ?_
    exact Jb H (xK ⟨[1,2,3,4],[5,6]⟩)
   rintro ⟨x18,x19⟩ H
   rw[Zh]at H
   refine xS ?_
   refine xr0 ?_
   refine Jj ?_
   refine Jn (Zd a0 a1 a2 a3 a4 a5 a6 a7 a8 a9 x2 x8 x9 x10 x11 x12 x13 x14 x15 x16 x19) (fun s=>[(0,.c (.pt 1 0)),(1,.c (.d (.sl 11 (List.map Ja a0)))),(5,.c (.os 3 11 0 x2.length)),(6,cI s.1),(7,.c (.pt 4 0)),(8,cB x19),(62,cB s.2)]) (fun s=>[[.d (.sl 2 (List.map Jg a1)),kI a2,kI a3,kI a4,.d (.sl 5 (List.map Jf a5)),.sl 1 (List.map dI a6) 5,.os 2 11 0 a9.length,.sl 1 (List.map dI a7) 6,kI a8],[.arr 11 (List.map Ja a9)],[.arr 11 (List.map Ja x2)],[kI x6,kS x7,kB x8,kB x9,kI x10,kI x11,kI x12,kI x13,.d (.sl 1 (List.map dS x14)),.d (.sl 3 (List.map Jl x15)),kI x16]]) [3,3] o1 ?_ ?_
   ·rcases xB Y G H with⟨p,H,F,G,q⟩|⟨p,H,F,G,q⟩
    ·refine xR ?_
     exact Jb H (xK ⟨[1,2,3,4],[5,6]⟩)
    obtain⟨g,H⟩:=Jc H
    have F:=xZ F (Jh Ja a0 ((IntKind.i64.wrap (x18+1)).toNat) default default (by omega))
    refine xR ?_
    exact Jb H (xK ⟨[1,2,3,4],[5,6]⟩)
   rintro ⟨x20,x21⟩ H
   rw[Zd]at H
   rcases xB Y G H with⟨p,H,F,G,q⟩|⟨p,H,F,G,q⟩
   ·refine xT ?_
    cases H
   refine xE ?_
   refine xr0 ?_
   refine Jj ?_
   refine Jn (Zn a0 x2 x8 x9 x10 x11 x12 x13 x14 x15 x16 x19 x20) (fun s=>[(0,.c (.pt 1 0)),(1,.c (.d (.sl 11 (List.map Ja a0)))),(5,.c (.os 3 11 0 x2.length)),(6,cI x20),(7,.c (.pt 4 0)),(8,cB x19),(9,cS s)]) (fun s=>[[.d (.sl 2 (List.map Jg a1)),kI a2,kI a3,kI a4,.d (.sl 5 (List.map Jf a5)),.sl 1 (List.map dI a6) 5,.os 2 11 0 a9.length,.sl 1 (List.map dI a7) 6,kI a8],[.arr 11 (List.map Ja a9)],[.arr 11 (List.map Ja x2)],[kI x6,kS x7,kB x8,kB x9,kI x10,kI x11,kI x12,kI x13,.d (.sl 1 (List.map dS x14)),.d (.sl 3 (List.map Jl x15)),kI x16]]) [3,3] o1 ?_ ?_
   ·refine xS ?_
    obtain⟨g,H⟩:=Jc H
    have F:=xZ Y (Jh Ja a0 x20.toNat default default (by omega))
    obtain⟨r1,hr1,H⟩:=Ji H
    have F:=F
    refine xQ ?_
    refine xs 6 ?_
    refine xc ⟨[1,2],[5,6]⟩ (tabG 0 (cg10 hr1)) ?_
    refine xl ?_
    refine xS ?_
    rcases xB Y G H with⟨p,H,F,G,q⟩|⟨p,H,F,G,q⟩
    ·refine xT ?_
     refine xr ?_
     exact Jb H (xK ⟨[1,2,3,4],[9,10]⟩)
    refine xE ?_
    exact Jb H (xK ⟨[1,2,3,4],[9,10]⟩)
   rintro x22 H
   rw[Zn]at H
   refine Jn (Zp x2 x8 x9 x10 x11 x12 x13 x14 x15 x16 x22) (fun s=>[(0,.c (.pt 1 0)),(1,.c (.d (.sl 11 (List.map Ja a0)))),(5,.c (.os 3 11 0 x2.length)),(6,cI s),(7,.c (.pt 4 0)),(9,cS x22)]) (fun s=>[[.d (.sl 2 (List.map Jg a1)),kI a2,kI a3,kI a4,.d (.sl 5 (List.map Jf a5)),.sl 1 (List.map dI a6) 5,.os 2 11 0 a9.length,.sl 1 (List.map dI a7) 6,kI a8],[.arr 11 (List.map Ja a9)],[.arr 11 (List.map Ja x2)],[kI x6,kS x7,kB x8,kB x9,kI x10,kI x11,kI x12,kI x13,.d (.sl 1 (List.map dS x14)),.d (.sl 3 (List.map Jl x15)),kI x16]]) [3,3] o1 ?_ ?_
   ·refine xS ?_
    refine xr ?_
    rcases xB Y G H with⟨p,H,F,G,q⟩|⟨p,H,F,G,q⟩
    ·refine xT ?_
     refine xr0 ?_
     refine Jj ?_
     refine Jn (Zl x2 x8 x9 x10 x11 x12 x13 x14 x15 x16 x22) (fun s=>[(0,.c (.pt 1 0)),(1,.c (.d (.sl 11 (List.map Ja a0)))),(5,.c (.os 3 11 0 x2.length)),(6,cI s.1),(7,.c (.pt 4 0)),(9,cS x22),(85,cB s.2)]) (fun s=>[[.d (.sl 2 (List.map Jg a1)),kI a2,kI a3,kI a4,.d (.sl 5 (List.map Jf a5)),.sl 1 (List.map dI a6) 5,.os 2 11 0 a9.length,.sl 1 (List.map dI a7) 6,kI a8],[.arr 11 (List.map Ja a9)],[.arr 11 (List.map Ja x2)],[kI x6,kS x7,kB x8,kB x9,kI x10,kI x11,kI x12,kI x13,.d (.sl 1 (List.map dS x14)),.d (.sl 3 (List.map Jl x15)),kI x16]]) [3,3] o1 ?_ ?_
     ·rcases xB Y G H with⟨p,H,F,G,q⟩|⟨p,H,F,G,q⟩
      ·refine xR ?_
       exact Jb H (xK ⟨[1,2,3,4],[5,6]⟩)
      obtain⟨g,H⟩:=Jc H
      have F:=xZ F (Jh Ja a0 ((IntKind.i64.wrap (x20+1)).toNat) default default (by omega))
      refine xR ?_
      exact Jb H (xK ⟨[1,2,3,4],[5,6]⟩)
     rintro ⟨x24,x25⟩ H
     rw[Zl]at H
     rcases xB Y G H with⟨p,H,F,G,q⟩|⟨p,H,F,G,q⟩
     ·refine xT ?_
      cases H
     refine xE ?_
     exact Jb H (xK ⟨[1,2,3,4],[5,6]⟩)
    refine xE ?_
    exact Jb H (xK ⟨[1,2,3,4],[5,6]⟩)
   rintro x23 H
   rw[Zp]at H
   refine xS ?_
   refine xr ?_
   obtain⟨g,H⟩:=Jc H
   have F:=xZ Y (JH KL [(⟨2,x22,x8,x9,x10,x11,x12,x13,x14,x15,x16⟩:Token)])
   have L:[(⟨2,x22,x8,x9,x10,x11,x12,x13,x14,x15,x16⟩:Token)].length=1:=rfl
   refine xR ?_
   exact Jb H (xK ⟨[1,2,7],[5,6]⟩)
  rintro ⟨x3,x4⟩ H
  rw[Ze]at H
  refine xr ?_
  exact Jw (JA H hF1) (xK ⟨[1,2,3],[4,5]⟩)
 replace H:=Jq H hF1
 refine xE ?_
 replace H:=oI H
 refine xr ?_
 subst H
 refine xOf 3 11 (List.map Ja x2) [] ?_
 refine xrD [] ?_
 exact xO ⟨[1,2],[4,5]⟩
theorem JcI:Jd Tryz.prog 80∧(∀ g,ZN g→Jm Tryz.prog 80 g)∧(true=true→∀ g,ZN g→∃ val bs ts,g.out=.ret val bs ts) :=
 ⟨JC8,JiF,fun _=>by rintro _ ⟨_,_,_,_,_,_,_,_,_,_,_,_,rfl⟩; exact⟨_,_,_,rfl⟩⟩
noncomputable def JaC(r2:YT)(r3:(Int×Int)):(Int×Int)→Option Yw
 | (x2,x3)=>grB (Jdx (⟨0,x2,x3⟩:Fault)) (fun r4=>some (.ok (!eqI r3.1 0,r2.2))) (fun e2=>some (.er ((⟨0,x2,x3⟩:Fault).Err,(⟨0,x2,x3⟩:Fault).File,(⟨0,x2,x3⟩:Fault).At,r2.2)))
noncomputable def Jak(a0:List Token)(r2:YT)(r3:(Int×Int)):Bool→Option Yw
 | x4=>if x4=true then if 1<a0.length then if 1<a0.length then JaC r2 r3 ((a0.getD 1 default).File,(a0.getD 1 default).At) else none else none else JaC r2 r3 (r3.2,0)
noncomputable def Jav(a0:List Token)(a1:List Source)(a2 a3 a4:Int)(a5:List Macro)(a6 a7:List Int)(a8:Int)(a9:List Token):Bool→Option Yw
 | x5=>if x5=true then if 1<a0.length then none else none else if 2<a0.length then if 1<a0.length then(Jcb ((a0.getD 2 default).Text) a1 a2 a3 a4 a5 a6 a7 a8 a9).bind fun r5=>some (.ok (eqB r5 (eqS ((a0.getD 1 default).Text) [105,102,100,101,102]),a2)) else none else none
noncomputable def Jas(a0:List Token)(a1:List Source)(a2 a3 a4:Int)(a5:List Macro)(a6 a7:List Int)(a8:Int)(a9:List Token):Bool→Option Yw
 | x1=>if x1=true then if(eqI (a0.length:Int) 2)=true then if 1<a0.length then none else none else if(0:Int)≤2∧2≤(a0.length:Int)∧(a0.length:Int)≤(a0.length:Int) then(Jdu (List.drop 2 a0) a1 a2 a3 a4 a5 a6 a7 a8 a9).bind fun r1=>grB (Zq r1 a1 a2 a3 a4 a5 a6 a7 a8 a9) (fun r2=>(JlI r2.1).bind fun r3=>if(ltI r3.2 0)=true then Jak a0 r2 r3 (!eqI 0 0) else Jak a0 r2 r3 false) (fun e1=>some (.er (e1.1,e1.2.1,e1.2.2,a2))) else none else if(!eqI (a0.length:Int) 3)=true then Jav a0 a1 a2 a3 a4 a5 a6 a7 a8 a9 true else if 2<a0.length then Jav a0 a1 a2 a3 a4 a5 a6 a7 a8 a9 (!eqI ((a0.getD 2 default).Kind) 1) else none
noncomputable def Jct(a0:List Token)(a1:List Source)(a2 a3 a4:Int)(a5:List Macro)(a6 a7:List Int)(a8:Int)(a9:List Token):Option Yw :=
 if 1<a0.length then if(eqS ((a0.getD 1 default).Text) [105,102])=true then Jas a0 a1 a2 a3 a4 a5 a6 a7 a8 a9 true else Jas a0 a1 a2 a3 a4 a5 a6 a7 a8 a9 (eqS ((a0.getD 1 default).Text) [101,108,105,102]) else none
def Jj1(a0:List Token)(a1:List Source)(a2 a3 a4:Int)(a5:List Macro)(a6 a7:List Int)(a8:Int)(a9:List Token):GR YM (Bool×Int)→GOut
 | .ok r=>.ret (cB r.1) [[.d (.sl 2 (List.map Jg a1)),kI r.2,kI a3,kI a4,.d (.sl 5 (List.map Jf a5)),.sl 1 (List.map dI a6) 3,.os 2 11 0 a9.length,.sl 1 (List.map dI a7) 4,kI a8],[.arr 11 (List.map Ja a9)]] [3,3]
 | .er r=>.pan (.iface 78 (.agg ⟨[.int .i64 r.1,.int .i64 r.2.1,.int .i64 r.2.2.1]⟩)) [[.d (.sl 2 (List.map Jg a1)),kI r.2.2.2,kI a3,kI a4,.d (.sl 5 (List.map Jf a5)),.sl 1 (List.map dI a6) 3,.os 2 11 0 a9.length,.sl 1 (List.map dI a7) 4,kI a8],[.arr 11 (List.map Ja a9)]] [3,3]
def Jbl(a0:List Token)(a1:List Source)(a2 a3 a4:Int)(a5:List Macro)(a6 a7:List Int)(a8:Int)(a9:List Token)(r:GR YM (Bool×Int)):GI :=
 ⟨[.c (.pt 1 0),.c (.d (.sl 11 (List.map Ja a0)))],[[.d (.sl 2 (List.map Jg a1)),kI a2,kI a3,kI a4,.d (.sl 5 (List.map Jf a5)),.sl 1 (List.map dI a6) 3,.os 2 11 0 a9.length,.sl 1 (List.map dI a7) 4,kI a8],[.arr 11 (List.map Ja a9)]],[3,3],Jj1 a0 a1 a2 a3 a4 a5 a6 a7 a8 a9 r⟩
def Jbh:GI→Prop:=Sg10 Jct Jbl
theorem Jjp:∀ g,Jbh g→Jm Tryz.prog 55 g:=by
 rintro _ ⟨a0,a1,a2,a3,a4,a5,a6,a7,a8,a9,r,H,rfl⟩
 refine xGnl mixed [8,13] [] [(80,true,ZN),(54,false,Xo),(79,true,Jhe),(33,false,JbR),(81,true,XR)] [] trivial ⟨JcI,Vp,Ji5,JbE,Jbf,trivial⟩ trivial Tryz.func55 _ ?_
 have G:=True.intro
 have Y:=xZ y_3 <| xZ y_4 <| xZ y_9 <| xZ y_24 <| xZ y_29 <| xZ y_31 <| xZ y_44 <| xZ Tryz.results55 <| xZ Jg.eq_1 <| xZ Jl.eq_1 <| xZ Ja.eq_1 <| xZ Jf.eq_1 <| xZ Ku.eq_1 <| xZ JU.eq_1 <| xZ ZT.eq_1 <| xZ Xt.eq_1 <| xZ Jhd.eq_1 <| xZ JbH.eq_1 <| xZ XW.eq_1 <| Jbl.eq_1
 dsimp only[Jbl]
 simp only[Jct]at H
 refine xS ?_
 refine xr ?_
 obtain⟨g,H⟩:=Jc H
 have F:=xZ Y (Jh Ja a0 1 default default (by omega))
 refine xR0 ?_
 refine Jj ?_
 refine Jag ?_
 refine Jn (Jas a0 a1 a2 a3 a4 a5 a6 a7 a8 a9) (fun s=>[(0,.c (.pt 1 0)),(1,.c (.d (.sl 11 (List.map Ja a0)))),(11,cB s)]) (fun s=>[[.d (.sl 2 (List.map Jg a1)),kI a2,kI a3,kI a4,.d (.sl 5 (List.map Jf a5)),.sl 1 (List.map dI a6) 3,.os 2 11 0 a9.length,.sl 1 (List.map dI a7) 4,kI a8],[.arr 11 (List.map Ja a9)]]) [3,3] r ?_ ?_
 ·refine xS ?_
  refine xr ?_
  rcases xB Y G H with⟨p,H,F,G,q⟩|⟨p,H,F,G,q⟩
  ·refine xT ?_
   exact Jb H (xK ⟨[1,2],[3,4]⟩)
  refine xE ?_
  refine xr ?_
  exact Jb H (xK ⟨[1,2],[3,4]⟩)
 rintro x1 H
 rw[Jas]at H
 rcases xB Y G H with⟨p,H,F,G,q⟩|⟨p,H,F,G,q⟩
 ·refine xT ?_
  refine xr ?_
  rcases xB Y G H with⟨p,H,F,G,q⟩|⟨p,H,F,G,q⟩
  ·refine xT ?_
   obtain⟨g,H⟩:=Jc H
   have F:=xZ Y (Jh Ja a0 1 default default (by omega))
   cases H
  refine xE ?_
  obtain⟨g,H⟩:=Jc H
  obtain⟨r1,hr1,H⟩:=Ji H
  have F:=Y
  rcases Z3 H with⟨r2,hr2,H⟩|⟨e1,hr3,H⟩
  ·have F:=F
   obtain⟨r3,hr4,H⟩:=Ji H
   have F:=F
   refine xQ ?_
   refine xs 4 ?_
   refine xc ⟨[1,2],[3,4]⟩ (tabG 0 (cg10 hr1)) ?_
   refine xc ⟨[1,2],[7,8]⟩ (tabG 1 (cg10 hr2)) ?_
   refine xc ⟨[],[]⟩ (tabG 2 (cg1 hr4)) ?_
   refine xs 6 ?_
   refine xl ?_
   refine  ?_
   refine Jj ?_
   refine Jn (JaC r2 r3) (fun s=>[(5,cI r3.1),(6,.c (.pt 3 0))]) (fun s=>[[.d (.sl 2 (List.map Jg a1)),kI r2.2,kI a3,kI a4,.d (.sl 5 (List.map Jf a5)),.sl 1 (List.map dI a6) 4,.os 2 11 0 a9.length,.sl 1 (List.map dI a7) 5,kI a8],[.arr 11 (List.map Ja a9)],[kI 0,kI s.1,kI s.2]]) [3,3] r ?_ ?_
   ·refine Jn (Jak a0 r2 r3) (fun s=>[(1,.c (.d (.sl 11 (List.map Ja a0)))),(5,cI r3.1),(6,.c (.pt 3 0)),(37,cB s)]) (fun s=>[[.d (.sl 2 (List.map Jg a1)),kI r2.2,kI a3,kI a4,.d (.sl 5 (List.map Jf a5)),.sl 1 (List.map dI a6) 4,.os 2 11 0 a9.length,.sl 1 (List.map dI a7) 5,kI a8],[.arr 11 (List.map Ja a9)],[kI 0,kI r3.2,kI 0]]) [3,3] r ?_ ?_
    ·rcases xB Y G H with⟨p,H,F,G,q⟩|⟨p,H,F,G,q⟩
     ·refine xR ?_
      exact Jb H (xK ⟨[1,2,13],[11,12]⟩)
     refine xR ?_
     exact Jb H (xK ⟨[1,2,13],[11,12]⟩)
    rintro x4 H
    rw[Jak]at H
    rcases xB Y G H with⟨p,H,F,G,q⟩|⟨p,H,F,G,q⟩
    ·refine xT ?_
     obtain⟨g,H⟩:=Jc H
     have F:=xZ Y (Jh Ja a0 1 default default (by omega))
     obtain⟨g,H⟩:=Jc H
     have F:=xZ F (Jh Ja a0 1 default default (by omega))
     refine xP [0,1,2,3,4,5,6,7,8,9,10,11] [45] ⟨JcI,Vp,Ji5,JbE,Jbf,trivial⟩ ?_
     refine xsX 7 ?_
     refine xaX ?_
     refine xsX 1 ?_
     refine xbX ?_
     refine xsX 1 ?_
     refine xbX ?_
     refine xlX ?_
     refine xS ?_
     exact Jb H (xK ⟨[1,2,3],[4,5]⟩)
    refine xE ?_
    exact Jb H (xK ⟨[1,2,3],[4,5]⟩)
   rintro ⟨x2,x3⟩ H
   rw[JaC]at H
   refine xS ?_
   rcases Z3 H with⟨r4,hr5,H⟩|⟨e2,hr6,H⟩
   ·have F:=Y
    refine xQ ?_
    refine xs 1 ?_
    refine xc ⟨[],[]⟩ (tabG 3 (cg1 hr5)) ?_
    refine xl ?_
    refine xS ?_
    replace H:=oI H
    refine xr ?_
    subst H
    refine xrD [] ?_
    exact xO ⟨[1,2],[4,5]⟩
   have F:=Y
   refine xQp [48,49] ?_
   refine xs 1 ?_
   refine xp ⟨[],[]⟩ (tabG 3 (cg1 hr6)) ?_
   replace H:=oI H
   refine xS ?_
   subst H
   refine xpD [] ?_
   exact xOv ⟨[1,2],[4,5]⟩
  have F:=F
  refine xQp [21,22,23,24,25,26,27,20,28,29,6,5] ?_
  refine xs 4 ?_
  refine xc ⟨[1,2],[3,4]⟩ (tabG 0 (cg10 hr1)) ?_
  refine xp ⟨[1,2],[7,8]⟩ (tabG 1 (cg10 hr3)) ?_
  replace H:=oI H
  refine xS ?_
  subst H
  refine xpD [] ?_
  exact xOv ⟨[1,2],[11,12]⟩
 refine xE0 ?_
 refine VA ?_
 refine Jmv ?_
 refine Jj ?_
 refine Kf ?_
 refine Jn (Jav a0 a1 a2 a3 a4 a5 a6 a7 a8 a9) (fun s=>[(0,.c (.pt 1 0)),(1,.c (.d (.sl 11 (List.map Ja a0)))),(61,cB s)]) (fun s=>[[.d (.sl 2 (List.map Jg a1)),kI a2,kI a3,kI a4,.d (.sl 5 (List.map Jf a5)),.sl 1 (List.map dI a6) 3,.os 2 11 0 a9.length,.sl 1 (List.map dI a7) 4,kI a8],[.arr 11 (List.map Ja a9)]]) [3,3] r ?_ ?_
 ·rcases xB Y G H with⟨p,H,F,G,q⟩|⟨p,H,F,G,q⟩
  ·refine xR ?_
   exact Jb H (xK ⟨[1,2],[3,4]⟩)
  obtain⟨g,H⟩:=Jc H
  have F:=xZ F (Jh Ja a0 2 default default (by omega))
  refine xR ?_
  exact Jb H (xK ⟨[1,2],[3,4]⟩)
 rintro x5 H
 rw[Jav]at H
 rcases xB Y G H with⟨p,H,F,G,q⟩|⟨p,H,F,G,q⟩
 ·refine xT ?_
  obtain⟨g,H⟩:=Jc H
  have F:=xZ Y (Jh Ja a0 1 default default (by omega))
  cases H
 refine xE ?_
 obtain⟨g,H⟩:=Jc H
 have F:=xZ Y (Jh Ja a0 2 default default (by omega))
 obtain⟨g,H⟩:=Jc H
 have F:=xZ F (Jh Ja a0 1 default default (by omega))
 obtain⟨r5,hr7,H⟩:=Ji H
 have F:=F
 refine xP [0,1,2,3,4,6,7,8,9,10,5,11,12] [74] ⟨JcI,Vp,Ji5,JbE,Jbf,trivial⟩ ?_
 refine xsX 8 ?_
 refine xaX ?_
 refine xsX 1 ?_
 refine xcX ⟨[1,2],[3,4]⟩ (tabG 4 (cg10 hr7)) ?_
 refine xsX 2 ?_
 refine xlX ?_
 replace H:=oI H
 refine xS ?_
 subst H
 refine xrD [] ?_
 exact xO ⟨[1,2],[7,8]⟩
theorem Jkh:Jd Tryz.prog 55∧(∀ g,Jbh g→Jm Tryz.prog 55 g)∧(false=true→∀ g,Jbh g→∃ val bs ts,g.out=.ret val bs ts) :=
 ⟨JC1,Jjp,nofun⟩
noncomputable def Kj(a1:List drive_group):(Nat×Int×Int)→Option ((Nat×Int×Int) ⊕ Int)
 | (x1,x2,x3)=>if(ltI x3 x2)=true then if(0:Int)≤x3∧x3.toNat<x1 then if x3.toNat<a1.length then(Jfw (a1.getD x3.toNat default)).bind fun r1=>if r1=true then inrO (some x3) else some (.inl (x1,x2,IntKind.i64.wrap (x3+1))) else none else none else inrO (some (-1))
noncomputable def JV(a0:Nat)(a1:List drive_group):Option Int :=
 Jv (Kj a1) (a0,((a0:Nat):Int),0)
def JS(a0:Nat)(a1:List drive_group)(r:Int):GI :=
 ⟨[.c (.os 1 14 0 a0),.c (.d (.v (.func (.func 53) #[] #[])))],[[.arr 14 (List.map Jk a1)]],[],.ret (cI r) [[.arr 14 (List.map Jk a1)]] []⟩
def JT:GI→Prop:=Sg2 JV JS
theorem JbN:∀ g,JT g→Jm Tryz.prog 77 g:=by
 rintro _ ⟨a0,a1,r,H,rfl⟩
 refine xGn mixed [(53,JfC)] [] [] ⟨⟨JDK,JnD⟩,trivial⟩ trivial trivial Tryz.func77 _ ?_
 have G:=True.intro
 have Y:=xZ y_80 <| xZ y_90 <| xZ Tryz.results77 <| xZ Jl.eq_1 <| xZ Ja.eq_1 <| xZ Jk.eq_1 <| JS.eq_1
 dsimp only[JS]
 simp only[JV]at H
 refine xS ?_
 refine xr ?_
 refine xr ?_
 refine JG (Kj a1) (fun s=>[(0,.c (.os 1 14 0 s.1)),(1,.c (.d (.v (.func (.func 53) #[] #[])))),(7,cI s.2.1),(8,cI s.2.2)]) (fun s=>[[.arr 14 (List.map Jk a1)]]) [] H (xK ⟨[1],[]⟩) ?_
 rintro n1 ⟨x1,x2,x3⟩ o1 H hF1
 rw[Kj]at H
 refine xS ?_
 refine xr ?_
 rcases xB Y G H with⟨p,H,F,G,q⟩|⟨p,H,F,G,q⟩
 ·refine xT ?_
  refine xr ?_
  obtain⟨g,H⟩:=Jc H
  obtain⟨g,H⟩:=Jc H
  have F:=xZ Y (Jh Jk a1 x3.toNat default default (by omega))
  obtain⟨r1,hr1,H⟩:=Ji H
  have F:=xCf F (Jpo (a1.getD x3.toNat default) r1 hr1)
  refine xR ?_
  rcases xB Y G H with⟨p,H,F,G,q⟩|⟨p,H,F,G,q⟩
  ·refine xT ?_
   replace H:=Jq H hF1
   replace H:=oI H
   refine xr ?_
   subst H
   refine xrD [] ?_
   exact xO ⟨[1],[]⟩
  refine xE ?_
  refine xr ?_
  exact Jw (JA H hF1) (xK ⟨[1],[]⟩)
 replace H:=Jq H hF1
 refine xE ?_
 replace H:=oI H
 refine xr ?_
 subst H
 refine xrD [] ?_
 exact xO ⟨[1],[]⟩
theorem JbY:Jd Tryz.prog 77∧(∀ g,JT g→Jm Tryz.prog 77 g)∧(true=true→∀ g,JT g→∃ val bs ts,g.out=.ret val bs ts) :=
 ⟨JCS,JbN,fun _=>by rintro _ ⟨_,_,_,_,rfl⟩; exact⟨_,_,_,rfl⟩⟩
noncomputable def JQ(a0:Nat)(a1:List drive_group):Option Bool :=
 (JV a0 a1).bind fun r1=>some (leI 0 r1)
def JN(a0:Nat)(a1:List drive_group)(r:Bool):GI :=
 ⟨[.c (.os 1 14 0 a0),.c (.d (.v (.func (.func 53) #[] #[])))],[[.arr 14 (List.map Jk a1)]],[],.ret (cB r) [[.arr 14 (List.map Jk a1)]] []⟩
def JO:GI→Prop:=Sg2 JQ JN
theorem JaW:∀ g,JO g→Jm Tryz.prog 52 g:=by
 rintro _ ⟨a0,a1,r,H,rfl⟩
 refine xGn mixed [] [(77,true,JT)] [] trivial ⟨JbY,trivial⟩ trivial Tryz.func52 _ ?_
 have G:=True.intro
 have Y:=xZ Tryz.results52 <| xZ Jl.eq_1 <| xZ Ja.eq_1 <| xZ Jk.eq_1 <| xZ JS.eq_1 <| JN.eq_1
 dsimp only[JN]
 simp only[JQ]at H
 refine xS ?_
 refine xr ?_
 obtain⟨r1,hr1,H⟩:=Ji H
 have F:=Y
 refine xQ ?_
 refine xs 2 ?_
 refine xc ⟨[1],[]⟩ (tabG 0 (cg2 hr1)) ?_
 refine xs 2 ?_
 refine xl ?_
 replace H:=oI H
 refine xS ?_
 subst H
 refine xrD [] ?_
 exact xO ⟨[1],[]⟩
theorem Jbd:Jd Tryz.prog 52∧(∀ g,JO g→Jm Tryz.prog 52 g)∧(true=true→∀ g,JO g→∃ val bs ts,g.out=.ret val bs ts) :=
 ⟨JDV,JaW,fun _=>by rintro _ ⟨_,_,_,_,rfl⟩; exact⟨_,_,_,rfl⟩⟩
noncomputable def KT(a0:Nat)(a1:List drive_group):Option Bool :=
 (JQ a0 a1).bind fun r1=>some (!r1)
def JbG(a0:Nat)(a1:List drive_group)(r:Bool):GI :=
 ⟨[.c (.os 1 14 0 a0)],[[.arr 14 (List.map Jk a1)]],[],.ret (cB r) [[.arr 14 (List.map Jk a1)]] []⟩
def JbP:GI→Prop:=Sg2 KT JbG
theorem Jne:∀ g,JbP g→Jm Tryz.prog 35 g:=by
 rintro _ ⟨a0,a1,r,H,rfl⟩
 refine xGn mixed [] [(52,true,JO)] [] trivial ⟨Jbd,trivial⟩ trivial Tryz.func35 _ ?_
 have G:=True.intro
 have Y:=xZ Tryz.results35 <| xZ Jl.eq_1 <| xZ Ja.eq_1 <| xZ Jk.eq_1 <| xZ JN.eq_1 <| JbG.eq_1
 dsimp only[JbG]
 simp only[KT]at H
 refine xS ?_
 refine xr ?_
 obtain⟨r1,hr1,H⟩:=Ji H
 have F:=Y
 refine xQ ?_
 refine xs 1 ?_
 refine xc ⟨[1],[]⟩ (tabG 0 (cg2 hr1)) ?_
 refine xs 2 ?_
 refine xl ?_
 replace H:=oI H
 refine xS ?_
 subst H
 refine xrD [] ?_
 exact xO ⟨[1],[]⟩
theorem Jim:Jd Tryz.prog 35∧(∀ g,JbP g→Jm Tryz.prog 35 g)∧(true=true→∀ g,JbP g→∃ val bs ts,g.out=.ret val bs ts) :=
 ⟨JDY,Jne,fun _=>by rintro _ ⟨_,_,_,_,rfl⟩; exact⟨_,_,_,rfl⟩⟩
noncomputable def XF(a10:List drive_group):(Nat×Int×Bool×Bool×Int×(List UInt8)×Bool×Bool×Int×Int×Int×Int×YV×(List Call)×Int)→Option Yk
 | (x5,x6,x7,x8,x9,x10,x11,x12,x13,x14,x15,x16,x17,x18,x19)=>if x5≤a10.length∧(x5 + [(⟨x7,x8,false,(⟨x9,x10,x11,x12,x13,x14,x15,x16,x17,x18,x19⟩:Token)⟩:drive_group)].length) * 128≤140737488355328 then some (.ok (x5 + [(⟨x7,x8,false,(⟨x9,x10,x11,x12,x13,x14,x15,x16,x17,x18,x19⟩:Token)⟩:drive_group)].length,true,x6,(List.take x5 a10)++[(⟨x7,x8,false,(⟨x9,x10,x11,x12,x13,x14,x15,x16,x17,x18,x19⟩:Token)⟩:drive_group)])) else none
noncomputable def XE(x2:List UInt8)(x20:Nat):(Nat×Int×YY)→Option Yk
 | (x24,x25,x26)=>if(IntKind.i64.wrap (((x20:Nat):Int)-1)).toNat<x26.length then some (.ok (x24,true,x25,List.set x26 ((IntKind.i64.wrap (((x20:Nat):Int)-1)).toNat) (⟨(x26.getD ((IntKind.i64.wrap (((x20:Nat):Int)-1)).toNat) default).on_,(x26.getD ((IntKind.i64.wrap (((x20:Nat):Int)-1)).toNat) default).had_,eqS x2 [101,108,115,101],((x26.getD ((IntKind.i64.wrap (((x20:Nat):Int)-1)).toNat) default).at_)⟩:drive_group))) else none
noncomputable def Vo(x2:List UInt8)(x20:Nat):Yx→Option Yk
 | (x27,x28,x29,x30)=>if x28=true then if(IntKind.i64.wrap (((x20:Nat):Int)-1)).toNat<x30.length then if(IntKind.i64.wrap (((x20:Nat):Int)-1)).toNat<x30.length then XE x2 x20 (x27,x29,List.set x30 ((IntKind.i64.wrap (((x20:Nat):Int)-1)).toNat) (⟨true,true,(x30.getD ((IntKind.i64.wrap (((x20:Nat):Int)-1)).toNat) default).last_,((x30.getD ((IntKind.i64.wrap (((x20:Nat):Int)-1)).toNat) default).at_)⟩:drive_group)) else none else none else XE x2 x20 (x27,x29,x30)
noncomputable def XH(a1:List Token)(a2:List Source)(a3 a4 a5:Int)(a6:List Macro)(a7 a8:List Int)(a9:Int)(a10:List drive_group)(a11:List Token)(x2:List UInt8)(x20:Nat):(Nat×Bool)→Option Yk
 | (x22,x23)=>if x23=true then if 2<a1.length then none else none else if(IntKind.i64.wrap (((x20:Nat):Int)-1)).toNat<a10.length then if(IntKind.i64.wrap (((x20:Nat):Int)-1)).toNat<a10.length then if(!((a10.getD ((IntKind.i64.wrap (((x20:Nat):Int)-1)).toNat) default).had_))=true then if(eqS x2 [101,108,115,101])=true then Vo x2 x20 (x22,true,a3,List.set a10 ((IntKind.i64.wrap (((x20:Nat):Int)-1)).toNat) (⟨false,(a10.getD ((IntKind.i64.wrap (((x20:Nat):Int)-1)).toNat) default).had_,(a10.getD ((IntKind.i64.wrap (((x20:Nat):Int)-1)).toNat) default).last_,((a10.getD ((IntKind.i64.wrap (((x20:Nat):Int)-1)).toNat) default).at_)⟩:drive_group)) else grB (Jct a1 a2 a3 a4 a5 a6 a7 a8 a9 a11) (fun r3=>Vo x2 x20 (x22,r3.1,r3.2,List.set a10 ((IntKind.i64.wrap (((x20:Nat):Int)-1)).toNat) (⟨false,(a10.getD ((IntKind.i64.wrap (((x20:Nat):Int)-1)).toNat) default).had_,(a10.getD ((IntKind.i64.wrap (((x20:Nat):Int)-1)).toNat) default).last_,((a10.getD ((IntKind.i64.wrap (((x20:Nat):Int)-1)).toNat) default).at_)⟩:drive_group))) (fun e2=>some (.er (e2.1,e2.2.1,e2.2.2.1,e2.2.2.2))) else Vo x2 x20 (x22,false,a3,List.set a10 ((IntKind.i64.wrap (((x20:Nat):Int)-1)).toNat) (⟨false,(a10.getD ((IntKind.i64.wrap (((x20:Nat):Int)-1)).toNat) default).had_,(a10.getD ((IntKind.i64.wrap (((x20:Nat):Int)-1)).toNat) default).last_,((a10.getD ((IntKind.i64.wrap (((x20:Nat):Int)-1)).toNat) default).at_)⟩:drive_group)) else none else none
noncomputable def KG(a1:List Token)(a2:List Source)(a3 a4 a5:Int)(a6:List Macro)(a7 a8:List Int)(a9:Int)(a10:List drive_group)(a11:List Token)(x2:List UInt8):(Nat×Bool)→Option Yk
 | (x20,x21)=>if x21=true then if(eqI ((x20:Nat):Int) 0)=true then if 1<a1.length then none else none else if(0:Int)≤(IntKind.i64.wrap (((x20:Nat):Int)-1))∧(IntKind.i64.wrap (((x20:Nat):Int)-1)).toNat<x20 then if(eqS x2 [101,110,100,105,102])=true then if(ltI 2 (a1.length:Int))=true then if 2<a1.length then none else none else if(0:Int)≤0∧0≤(IntKind.i64.wrap (((x20:Nat):Int)-1))∧(IntKind.i64.wrap (((x20:Nat):Int)-1))≤((x20:Nat):Int) then some (.ok ((IntKind.i64.wrap (((x20:Nat):Int)-1)).toNat,true,a3,a10)) else none else if(IntKind.i64.wrap (((x20:Nat):Int)-1)).toNat<a10.length then if((a10.getD ((IntKind.i64.wrap (((x20:Nat):Int)-1)).toNat) default).last_)=true then if 1<a1.length then none else none else if(eqS x2 [101,108,115,101])=true then XH a1 a2 a3 a4 a5 a6 a7 a8 a9 a10 a11 x2 x20 (x20,ltI 2 (a1.length:Int)) else XH a1 a2 a3 a4 a5 a6 a7 a8 a9 a10 a11 x2 x20 (x20,false) else none else none else some (.ok (x20,false,a3,a10))
noncomputable def KK(a1:List Token)(a2:List Source)(a3 a4 a5:Int)(a6:List Macro)(a7 a8:List Int)(a9:Int)(a10:List drive_group)(a11:List Token):(Nat×(List UInt8)×(List UInt8)×Bool)→Option Yk
 | (x1,x2,x3,x4)=>if x4=true then if(eqI ((x1:Nat):Int) 12)=true then if 1<a1.length then none else none else if 1<a1.length then(KT x1 a10).bind fun r1=>if r1=true then grB (Jct a1 a2 a3 a4 a5 a6 a7 a8 a9 a11) (fun r2=>XF a10 (x1,r2.2,r2.1,r2.1,(a1.getD 1 default).Kind,(a1.getD 1 default).Text,(a1.getD 1 default).Space,(a1.getD 1 default).First,(a1.getD 1 default).File,(a1.getD 1 default).At,(a1.getD 1 default).End,(a1.getD 1 default).Line,(a1.getD 1 default).Hide,(a1.getD 1 default).Calls,(a1.getD 1 default).Made)) (fun e1=>some (.er (e1.1,e1.2.1,e1.2.2.1,e1.2.2.2))) else XF a10 (x1,a3,false,true,(a1.getD 1 default).Kind,(a1.getD 1 default).Text,(a1.getD 1 default).Space,(a1.getD 1 default).First,(a1.getD 1 default).File,(a1.getD 1 default).At,(a1.getD 1 default).End,(a1.getD 1 default).Line,(a1.getD 1 default).Hide,(a1.getD 1 default).Calls,(a1.getD 1 default).Made) else none else if(eqS x3 [101,108,105,102])=true then KG a1 a2 a3 a4 a5 a6 a7 a8 a9 a10 a11 x2 (x1,true) else if(eqS x3 [101,108,115,101])=true then KG a1 a2 a3 a4 a5 a6 a7 a8 a9 a10 a11 x2 (x1,true) else KG a1 a2 a3 a4 a5 a6 a7 a8 a9 a10 a11 x2 (x1,eqS x3 [101,110,100,105,102])
noncomputable def KB(a0:Nat)(a1:List Token)(a2:List Source)(a3 a4 a5:Int)(a6:List Macro)(a7 a8:List Int)(a9:Int)(a10:List drive_group)(a11:List Token):Option Yk :=
 if 1<a1.length then if(eqS ((a1.getD 1 default).Text) [105,102])=true then KK a1 a2 a3 a4 a5 a6 a7 a8 a9 a10 a11 (a0,(a1.getD 1 default).Text,(a1.getD 1 default).Text,true) else if(eqS ((a1.getD 1 default).Text) [105,102,100,101,102])=true then KK a1 a2 a3 a4 a5 a6 a7 a8 a9 a10 a11 (a0,(a1.getD 1 default).Text,(a1.getD 1 default).Text,true) else KK a1 a2 a3 a4 a5 a6 a7 a8 a9 a10 a11 (a0,(a1.getD 1 default).Text,(a1.getD 1 default).Text,eqS ((a1.getD 1 default).Text) [105,102,110,100,101,102]) else none
def Jis(a0:Nat)(a1:List Token)(a2:List Source)(a3 a4 a5:Int)(a6:List Macro)(a7 a8:List Int)(a9:Int)(a10:List drive_group)(a11:List Token):GR YM Yx→GOut
 | .ok r=>.ret (.tu [(false,[.os 4 14 0 r.1]),(false,[kB r.2.1])]) [[.d (.sl 2 (List.map Jg a2)),kI r.2.2.1,kI a4,kI a5,.d (.sl 5 (List.map Jf a6)),.sl 1 (List.map dI a7) 6,.os 5 11 0 a11.length,.sl 1 (List.map dI a8) 7,kI a9],[],[],[.arr 14 (List.map Jk r.2.2.2)],[.arr 11 (List.map Ja a11)]] [3,3]
 | .er r=>.pan (.iface 78 (.agg ⟨[.int .i64 r.1,.int .i64 r.2.1,.int .i64 r.2.2.1]⟩)) [[.d (.sl 2 (List.map Jg a2)),kI r.2.2.2,kI a4,kI a5,.d (.sl 5 (List.map Jf a6)),.sl 1 (List.map dI a7) 5,.os 4 11 0 a11.length,.sl 1 (List.map dI a8) 6,kI a9],[],[],[.arr 11 (List.map Ja a11)]] [3,3]
def XM(a0:Nat)(a1:List Token)(a2:List Source)(a3 a4 a5:Int)(a6:List Macro)(a7 a8:List Int)(a9:Int)(a10:List drive_group)(a11:List Token)(r:GR YM Yx):GI :=
 ⟨[.c (.pt 1 0),.c (.os 2 14 0 a0),.c (.d (.sl 11 (List.map Ja a1)))],[[.d (.sl 2 (List.map Jg a2)),kI a3,kI a4,kI a5,.d (.sl 5 (List.map Jf a6)),.sl 1 (List.map dI a7) 4,.os 3 11 0 a11.length,.sl 1 (List.map dI a8) 5,kI a9],[.arr 14 (List.map Jk a10)],[.arr 11 (List.map Ja a11)]],[3,3],Jis a0 a1 a2 a3 a4 a5 a6 a7 a8 a9 a10 a11 r⟩
def XY:GI→Prop:=Sg12 KB XM
theorem JhT:∀ g,XY g→Jm Tryz.prog 37 g:=by
 rintro _ ⟨a0,a1,a2,a3,a4,a5,a6,a7,a8,a9,a10,a11,r,H,rfl⟩
 refine xGn mixed [] [(35,true,JbP),(55,false,Jbh)] [] trivial ⟨Jim,Jkh,trivial⟩ trivial Tryz.func37 _ ?_
 have G:=True.intro
 have Y:=xZ y_4 <| xZ y_9 <| xZ y_24 <| xZ y_44 <| xZ y_80 <| xZ y_90 <| xZ Tryz.results37 <| xZ Jg.eq_1 <| xZ Jl.eq_1 <| xZ Ja.eq_1 <| xZ Jf.eq_1 <| xZ Ku.eq_1 <| xZ Jk.eq_1 <| xZ JbG.eq_1 <| xZ Jbl.eq_1 <| XM.eq_1
 dsimp only[XM]
 simp only[KB]at H
 refine xS ?_
 refine xrn 2 1 ?_
 refine xrn 3 1 ?_
 refine xr ?_
 obtain⟨g,H⟩:=Jc H
 have F:=xZ Y (Jh Ja a1 1 default default (by omega))
 refine xR ?_
 refine xr0 ?_
 refine Jj ?_
 refine Jag ?_
 refine Jn (KK a1 a2 a3 a4 a5 a6 a7 a8 a9 a10 a11) (fun s=>[(0,.c (.pt 1 0)),(1,.c (.os 4 14 0 s.1)),(2,.c (.d (.sl 11 (List.map Ja a1)))),(8,cS s.2.1),(15,cS s.2.2.1),(17,cB s.2.2.2)]) (fun s=>[[.d (.sl 2 (List.map Jg a2)),kI a3,kI a4,kI a5,.d (.sl 5 (List.map Jf a6)),.sl 1 (List.map dI a7) 6,.os 5 11 0 a11.length,.sl 1 (List.map dI a8) 7,kI a9],[],[],[.arr 14 (List.map Jk a10)],[.arr 11 (List.map Ja a11)]]) [3,3] r ?_ ?_
 ·refine xS ?_
  refine xr ?_
  rcases xB Y G H with⟨p,H,F,G,q⟩|⟨p,H,F,G,q⟩
  ·refine xT ?_
   exact Jb H (xK ⟨[1,2,3,6,7],[4,5]⟩)
  refine xE ?_
  refine xr ?_
  rcases xB Y G H with⟨p,H,F,G,q⟩|⟨p,H,F,G,q⟩
  ·refine xT ?_
   exact Jb H (xK ⟨[1,2,3,6,7],[4,5]⟩)
  refine xE ?_
  refine xr ?_
  exact Jb H (xK ⟨[1,2,3,6,7],[4,5]⟩)
 rintro ⟨x1,x2,x3,x4⟩ H
 rw[KK]at H
 rcases xB Y G H with⟨p,H,F,G,q⟩|⟨p,H,F,G,q⟩
 ·refine xT ?_
  refine xr ?_
  rcases xB Y G H with⟨p,H,F,G,q⟩|⟨p,H,F,G,q⟩
  ·refine xT ?_
   obtain⟨g,H⟩:=Jc H
   have F:=xZ Y (Jh Ja a1 1 default default (by omega))
   cases H
  refine xE ?_
  obtain⟨g,H⟩:=Jc H
  have F:=xZ Y (Jh Ja a1 1 default default (by omega))
  refine xR0 ?_
  refine Jj ?_
  refine Jn (XF a10) (fun s=>[(1,.c (.os 4 14 0 s.1)),(9,.c (.pt 5 0))]) (fun s=>[[.d (.sl 2 (List.map Jg a2)),kI s.2.1,kI a4,kI a5,.d (.sl 5 (List.map Jf a6)),.sl 1 (List.map dI a7) 7,.os 6 11 0 a11.length,.sl 1 (List.map dI a8) 8,kI a9],[],[],[.arr 14 (List.map Jk a10)],[kB s.2.2.1,kB s.2.2.2.1,kB false,kI s.2.2.2.2.1,kS s.2.2.2.2.2.1,kB s.2.2.2.2.2.2.1,kB s.2.2.2.2.2.2.2.1,kI s.2.2.2.2.2.2.2.2.1,kI s.2.2.2.2.2.2.2.2.2.1,kI s.2.2.2.2.2.2.2.2.2.2.1,kI s.2.2.2.2.2.2.2.2.2.2.2.1,.d (.sl 1 (List.map dS s.2.2.2.2.2.2.2.2.2.2.2.2.1)),.d (.sl 3 (List.map Jl s.2.2.2.2.2.2.2.2.2.2.2.2.2.1)),kI s.2.2.2.2.2.2.2.2.2.2.2.2.2.2],[.arr 11 (List.map Ja a11)]]) [3,3] r ?_ ?_
  ·refine xS ?_
   obtain⟨r1,hr1,H⟩:=Ji H
   have F:=Y
   refine xQ ?_
   refine xs 1 ?_
   refine xc ⟨[4],[]⟩ (tabG 0 (cg2 hr1)) ?_
   refine xl ?_
   refine xS ?_
   rcases xB Y G H with⟨p,H,F,G,q⟩|⟨p,H,F,G,q⟩
   ·refine xT ?_
    rcases Z3 H with⟨r2,hr2,H⟩|⟨e1,hr3,H⟩
    ·have F:=Y
     refine xQ ?_
     refine xs 2 ?_
     refine xc ⟨[1,5],[6,7]⟩ (tabG 1 (cg10 hr2)) ?_
     refine xs 2 ?_
     refine xl ?_
     refine xS ?_
     refine xr ?_
     exact Jb H (xK ⟨[1,2,3,4,8,5],[12,13]⟩)
    have F:=Y
    refine xQp [33,34,35,36] ?_
    refine xs 2 ?_
    refine xp ⟨[1,5],[6,7]⟩ (tabG 1 (cg10 hr3)) ?_
    replace H:=oI H
    refine xS ?_
    subst H
    refine xpD [] ?_
    exact xOv ⟨[1,2,3,5],[12,13]⟩
   refine xE ?_
   exact Jb H (xK ⟨[1,2,3,4,8,5],[6,7]⟩)
  rintro ⟨x5,x6,x7,x8,x9,x10,x11,x12,x13,x14,x15,x16,x17,x18,x19⟩ H
  rw[XF]at H
  refine xS ?_
  obtain⟨g,H⟩:=Jc H
  have F:=xZ Y (JH JoZ [(⟨x7,x8,false,(⟨x9,x10,x11,x12,x13,x14,x15,x16,x17,x18,x19⟩:Token)⟩:drive_group)])
  have T:=JfG a10 x5 (by omega)
  have F:=xZ F (Nat.min_eq_left (show x5≤a10.length by omega))
  have G:=xZ G (Nat.min_eq_left (show x5≤a10.length by omega))
  have F:=xZ F (Jdi Jk T)
  have G:=xZ G (Jdi Jk T)
  have L:[(⟨x7,x8,false,(⟨x9,x10,x11,x12,x13,x14,x15,x16,x17,x18,x19⟩:Token)⟩:drive_group)].length=1:=rfl
  replace H:=oI H
  refine xR ?_
  subst H
  refine xrD [] ?_
  exact xO ⟨[1,2,3,9,6],[7,8]⟩
 refine xE0 ?_
 refine Jn (KG a1 a2 a3 a4 a5 a6 a7 a8 a9 a10 a11 x2) (fun s=>[(0,.c (.pt 1 0)),(1,.c (.os 4 14 0 s.1)),(2,.c (.d (.sl 11 (List.map Ja a1)))),(8,cS x2),(44,cB s.2)]) (fun s=>[[.d (.sl 2 (List.map Jg a2)),kI a3,kI a4,kI a5,.d (.sl 5 (List.map Jf a6)),.sl 1 (List.map dI a7) 6,.os 5 11 0 a11.length,.sl 1 (List.map dI a8) 7,kI a9],[],[],[.arr 14 (List.map Jk a10)],[.arr 11 (List.map Ja a11)]]) [3,3] r ?_ ?_
 ·refine xS ?_
  refine xr ?_
  rcases xB Y G H with⟨p,H,F,G,q⟩|⟨p,H,F,G,q⟩
  ·refine xT ?_
   exact Jb H (xK ⟨[1,2,3,4,5],[6,7]⟩)
  refine xE ?_
  refine xr ?_
  rcases xB Y G H with⟨p,H,F,G,q⟩|⟨p,H,F,G,q⟩
  ·refine xT ?_
   exact Jb H (xK ⟨[1,2,3,4,5],[6,7]⟩)
  refine xE ?_
  refine xr ?_
  exact Jb H (xK ⟨[1,2,3,4,5],[6,7]⟩)
 rintro ⟨x20,x21⟩ H
 rw[KG]at H
 rcases xB Y G H with⟨p,H,F,G,q⟩|⟨p,H,F,G,q⟩
 ·refine xT ?_
  refine xr ?_
  rcases xB Y G H with⟨p,H,F,G,q⟩|⟨p,H,F,G,q⟩
  ·refine xT ?_
   obtain⟨g,H⟩:=Jc H
   have F:=xZ Y (Jh Ja a1 1 default default (by omega))
   cases H
  refine xE ?_
  obtain⟨g,H⟩:=Jc H
  refine xr ?_
  refine xr ?_
  rcases xB Y G H with⟨p,H,F,G,q⟩|⟨p,H,F,G,q⟩
  ·refine xT ?_
   refine xr ?_
   rcases xB Y G H with⟨p,H,F,G,q⟩|⟨p,H,F,G,q⟩
   ·refine xT ?_
    obtain⟨g,H⟩:=Jc H
    have F:=xZ Y (Jh Ja a1 2 default default (by omega))
    cases H
   refine xE ?_
   obtain⟨g,H⟩:=Jc H
   replace H:=oI H
   refine xr ?_
   subst H
   refine xrD [] ?_
   exact xO ⟨[1,2,3,4,5],[6,7]⟩
  refine xE ?_
  obtain⟨g,H⟩:=Jc H
  have F:=xZ Y (Jh Jk a10 ((IntKind.i64.wrap (((x20:Nat):Int)-1)).toNat) default default (by omega))
  refine xR ?_
  rcases xB Y G H with⟨p,H,F,G,q⟩|⟨p,H,F,G,q⟩
  ·refine xT ?_
   obtain⟨g,H⟩:=Jc H
   have F:=xZ Y (Jh Ja a1 1 default default (by omega))
   cases H
  refine xE0 ?_
  refine Jn (XH a1 a2 a3 a4 a5 a6 a7 a8 a9 a10 a11 x2 x20) (fun s=>[(0,.c (.pt 1 0)),(1,.c (.os 4 14 0 s.1)),(2,.c (.d (.sl 11 (List.map Ja a1)))),(8,cS x2),(10,.c (.pa 4 14 ((IntKind.i64.wrap (((x20:Nat):Int)-1)).toNat) 0)),(81,cB s.2)]) (fun s=>[[.d (.sl 2 (List.map Jg a2)),kI a3,kI a4,kI a5,.d (.sl 5 (List.map Jf a6)),.sl 1 (List.map dI a7) 6,.os 5 11 0 a11.length,.sl 1 (List.map dI a8) 7,kI a9],[],[],[.arr 14 (List.map Jk a10)],[.arr 11 (List.map Ja a11)]]) [3,3] r ?_ ?_
  ·rcases xB Y G H with⟨p,H,F,G,q⟩|⟨p,H,F,G,q⟩
   ·refine xR ?_
    exact Jb H (xK ⟨[1,2,3,4,5],[6,7]⟩)
   refine xR ?_
   exact Jb H (xK ⟨[1,2,3,4,5],[6,7]⟩)
  rintro ⟨x22,x23⟩ H
  rw[XH]at H
  rcases xB Y G H with⟨p,H,F,G,q⟩|⟨p,H,F,G,q⟩
  ·refine xT ?_
   obtain⟨g,H⟩:=Jc H
   have F:=xZ Y (Jh Ja a1 2 default default (by omega))
   cases H
  refine xE ?_
  obtain⟨g,H⟩:=Jc H
  have F:=xZ Y (Jh Jk a10 ((IntKind.i64.wrap (((x20:Nat):Int)-1)).toNat) default default (by omega))
  have F:=xZ F (JeH Jk a10 ((IntKind.i64.wrap (((x20:Nat):Int)-1)).toNat))
  have F:=xZ F (JeX Jk a10 (show(IntKind.i64.wrap (((x20:Nat):Int)-1)).toNat<a10.length by omega))
  have F:=xZ F (JeY Jk a10 ((IntKind.i64.wrap (((x20:Nat):Int)-1)).toNat))
  refine xR0 ?_
  refine Jj ?_
  refine Jn (XE x2 x20) (fun s=>[(1,.c (.os 4 14 0 s.1)),(8,cS x2),(10,.c (.pa 4 14 ((IntKind.i64.wrap (((x20:Nat):Int)-1)).toNat) 0))]) (fun s=>[[.d (.sl 2 (List.map Jg a2)),kI s.2.1,kI a4,kI a5,.d (.sl 5 (List.map Jf a6)),.sl 1 (List.map dI a7) 6,.os 5 11 0 a11.length,.sl 1 (List.map dI a8) 7,kI a9],[],[],[.arr 14 (List.map Jk s.2.2)],[.arr 11 (List.map Ja a11)]]) [3,3] r ?_ ?_
  ·refine Jn (Vo x2 x20) (fun s=>[(1,.c (.os 4 14 0 s.1)),(8,cS x2),(10,.c (.pa 4 14 ((IntKind.i64.wrap (((x20:Nat):Int)-1)).toNat) 0)),(108,cB s.2.1)]) (fun s=>[[.d (.sl 2 (List.map Jg a2)),kI s.2.2.1,kI a4,kI a5,.d (.sl 5 (List.map Jf a6)),.sl 1 (List.map dI a7) 6,.os 5 11 0 a11.length,.sl 1 (List.map dI a8) 7,kI a9],[],[],[.arr 14 (List.map Jk s.2.2.2)],[.arr 11 (List.map Ja a11)]]) [3,3] r ?_ ?_
   ·obtain⟨g,H⟩:=Jc H
    have F:=xZ Y (Jh Jk a10 ((IntKind.i64.wrap (((x20:Nat):Int)-1)).toNat) default default (by omega))
    have F:=xZ F (JeH Jk a10 ((IntKind.i64.wrap (((x20:Nat):Int)-1)).toNat))
    have F:=xZ F (JeX Jk a10 (show(IntKind.i64.wrap (((x20:Nat):Int)-1)).toNat<a10.length by omega))
    have F:=xZ F (JeY Jk a10 ((IntKind.i64.wrap (((x20:Nat):Int)-1)).toNat))
    rcases xB F G H with⟨p,H,F,G,q⟩|⟨p,H,F,G,q⟩
    ·rcases xB F G H with⟨p,H,F,G,q⟩|⟨p,H,F,G,q⟩
     ·refine xR ?_
      exact Jb H (xK ⟨[1,2,3,4,5],[6,7]⟩)
     rcases Z3 H with⟨r3,hr4,H⟩|⟨e2,hr5,H⟩
     ·have F:=F
      refine xQ ?_
      refine xs 11 ?_
      refine xc ⟨[1,5],[6,7]⟩ (tabG 1 (cg10 hr4)) ?_
      refine xs 2 ?_
      refine xl ?_
      refine xS ?_
      exact Jb H (xK ⟨[1,2,3,4,5],[10,11]⟩)
     have F:=F
     refine xQp [95,96,97,98,99,100,101,102,103,104,105,106,107,108] ?_
     refine xs 11 ?_
     refine xp ⟨[1,5],[6,7]⟩ (tabG 1 (cg10 hr5)) ?_
     replace H:=oI H
     refine xS ?_
     subst H
     refine xpD [] ?_
     exact xOv ⟨[1,2,3,5],[10,11]⟩
    refine xR ?_
    exact Jb H (xK ⟨[1,2,3,4,5],[6,7]⟩)
   rintro ⟨x27,x28,x29,x30⟩ H
   rw[Vo]at H
   rcases xB Y G H with⟨p,H,F,G,q⟩|⟨p,H,F,G,q⟩
   ·refine xT ?_
    obtain⟨g,H⟩:=Jc H
    have F:=xZ Y (Jh Jk x30 ((IntKind.i64.wrap (((x20:Nat):Int)-1)).toNat) default default (by omega))
    have F:=xZ F (JeH Jk x30 ((IntKind.i64.wrap (((x20:Nat):Int)-1)).toNat))
    have F:=xZ F (JeX Jk x30 (show(IntKind.i64.wrap (((x20:Nat):Int)-1)).toNat<x30.length by omega))
    have F:=xZ F (JeY Jk x30 ((IntKind.i64.wrap (((x20:Nat):Int)-1)).toNat))
    obtain⟨g,H⟩:=Jc H
    have F:=xZ F (Jh Jk x30 ((IntKind.i64.wrap (((x20:Nat):Int)-1)).toNat) default default (by omega))
    have F:=xZ F (JeH Jk x30 ((IntKind.i64.wrap (((x20:Nat):Int)-1)).toNat))
    have F:=xZ F (JeX Jk x30 (show(IntKind.i64.wrap (((x20:Nat):Int)-1)).toNat<x30.length by omega))
    have F:=xZ F (JeY Jk x30 ((IntKind.i64.wrap (((x20:Nat):Int)-1)).toNat))
    refine xR ?_
    exact Jb H (xK ⟨[1,2,3,4,5],[6,7]⟩)
   refine xE ?_
   exact Jb H (xK ⟨[1,2,3,4,5],[6,7]⟩)
  rintro ⟨x24,x25,x26⟩ H
  rw[XE]at H
  refine xS ?_
  obtain⟨g,H⟩:=Jc H
  have F:=xZ Y (Jh Jk x26 ((IntKind.i64.wrap (((x20:Nat):Int)-1)).toNat) default default (by omega))
  have F:=xZ F (JeH Jk x26 ((IntKind.i64.wrap (((x20:Nat):Int)-1)).toNat))
  have F:=xZ F (JeX Jk x26 (show(IntKind.i64.wrap (((x20:Nat):Int)-1)).toNat<x26.length by omega))
  have F:=xZ F (JeY Jk x26 ((IntKind.i64.wrap (((x20:Nat):Int)-1)).toNat))
  refine xR ?_
  replace H:=oI H
  refine xr ?_
  subst H
  refine xrD [] ?_
  exact xO ⟨[1,2,3,4,5],[6,7]⟩
 refine xE ?_
 replace H:=oI H
 refine xr ?_
 subst H
 refine xrD [] ?_
 exact xO ⟨[1,2,3,4,5],[6,7]⟩
theorem Jid:Jd Tryz.prog 37∧(∀ g,XY g→Jm Tryz.prog 37 g)∧(false=true→∀ g,XY g→∃ val bs ts,g.out=.ret val bs ts) :=
 ⟨JDr,JhT,nofun⟩
noncomputable def JbA:Bool→Option Bool
 | x1=>some x1
noncomputable def JdS(a0:List UInt8):Option Bool :=
 if(eqS a0 [95,95,76,73,78,69,95,95])=true then JbA true else if(eqS a0 [95,95,70,73,76,69,95,95])=true then JbA true else JbA (eqS a0 [100,101,102,105,110,101,100])
noncomputable def Jdl:PF:=PF.of (E1 dS) (fun a=>JdS a) dB
theorem Jil:JB Tryz.prog 58 Jdl:=by
 refine xF mixed [] [] trivial trivial Tryz.func58 ?_
 rintro a0 out H
 have G:=True.intro
 have Y:=Tryz.results58
 simp only[JdS]at H
 refine xS ?_
 refine xr0 ?_
 refine Jj ?_
 refine Jn JbA (fun s=>[(2,cB s)]) (fun s=>[]) [] out ?_ ?_
 ·rcases xB Y G H with⟨p,H,F,G,q⟩|⟨p,H,F,G,q⟩
  ·refine xR ?_
   exact Jb H (xK ⟨[],[]⟩)
  rcases xB F G H with⟨p,H,F,G,q⟩|⟨p,H,F,G,q⟩
  ·refine xR ?_
   exact Jb H (xK ⟨[],[]⟩)
  refine xR ?_
  exact Jb H (xK ⟨[],[]⟩)
 rintro x1 H
 rw[JbA]at H
 replace H:=oI H
 refine xS ?_
 subst H
 exact xN
theorem JiU(a0:List UInt8)(r:Bool)(H:JdS a0=some r):PC Jdl [dS a0] (dB r):=PF.c (a:=a0) H
noncomputable def Jfo(x1 x2:Int):Unit→Option YU
 | ()=>some (.inl (x1,IntKind.i64.wrap (x2+1)))
noncomputable def Jfp(x1 x2:Int):Bool→Option YU
 | x3=>if x3=true then none else Jfo x1 x2 ()
noncomputable def JdM(x1 x2:Int):Bool→Option YU
 | x16=>if x16=true then none else Jfo x1 x2 ()
noncomputable def JdP(a1:Bool)(a4:List Token)(x1 x2:Int):Ye→Option YU
 | (x4,x5,x6,x7,x8,x9,x10,x11,x12,x13,x14,x15)=>if x4=true then none else if(eqS x6 [35])=true then if a1=true then if(eqI x2 (IntKind.i64.wrap (((a4.length:Nat):Int)-1)))=true then JdM x1 x2 true else if(0:Int)≤(IntKind.i64.wrap (x2+1))∧(IntKind.i64.wrap (x2+1)).toNat<a4.length then if(IntKind.i64.wrap (x2+1)).toNat<a4.length then none else none else none else JdM x1 x2 false else JdM x1 x2 false
noncomputable def Jhx(a1 a3:Bool)(a4:List Token):(Int×Int)→Option YU
 | (x1,x2)=>if(ltI x2 x1)=true then if(0:Int)≤x2∧x2.toNat<a4.length then if x2.toNat<a4.length then if(!eqI ((a4.getD x2.toNat default).Kind) 5)=true then if(eqS ((a4.getD x2.toNat default).Text) [95,95,86,65,95,65,82,71,83,95,95])=true then Jfp x1 x2 (!a3) else Jfp x1 x2 false else if(eqS ((a4.getD x2.toNat default).Text) [35,35])=true then if(eqI x2 0)=true then JdP a1 a4 x1 x2 (true,(a4.getD x2.toNat default).Kind,(a4.getD x2.toNat default).Text,(a4.getD x2.toNat default).Space,(a4.getD x2.toNat default).First,(a4.getD x2.toNat default).File,(a4.getD x2.toNat default).At,(a4.getD x2.toNat default).End,(a4.getD x2.toNat default).Line,(a4.getD x2.toNat default).Hide,(a4.getD x2.toNat default).Calls,(a4.getD x2.toNat default).Made) else JdP a1 a4 x1 x2 (eqI x2 (IntKind.i64.wrap (((a4.length:Nat):Int)-1)),(a4.getD x2.toNat default).Kind,(a4.getD x2.toNat default).Text,(a4.getD x2.toNat default).Space,(a4.getD x2.toNat default).First,(a4.getD x2.toNat default).File,(a4.getD x2.toNat default).At,(a4.getD x2.toNat default).End,(a4.getD x2.toNat default).Line,(a4.getD x2.toNat default).Hide,(a4.getD x2.toNat default).Calls,(a4.getD x2.toNat default).Made) else JdP a1 a4 x1 x2 (false,(a4.getD x2.toNat default).Kind,(a4.getD x2.toNat default).Text,(a4.getD x2.toNat default).Space,(a4.getD x2.toNat default).First,(a4.getD x2.toNat default).File,(a4.getD x2.toNat default).At,(a4.getD x2.toNat default).End,(a4.getD x2.toNat default).Line,(a4.getD x2.toNat default).Hide,(a4.getD x2.toNat default).Calls,(a4.getD x2.toNat default).Made) else none else none else inrO (some ())
noncomputable def JkA(a0:List UInt8)(a1:Bool)(a2:List (List UInt8))(a3:Bool)(a4:List Token):Option Unit :=
 Jv (Jhx a1 a3 a4) (((a4.length:Nat):Int),0)
def JfZ(a0:List UInt8)(a1:Bool)(a2:List (List UInt8))(a3:Bool)(a4:List Token)(r:Unit):GI :=
 ⟨[.c (.pt 1 0)],[[kS a0,kB a1,.sl 1 (List.map dS a2) 3,kB a3,.os 2 11 0 a4.length],[.arr 11 (List.map Ja a4)]],[9],.ret (.ag [kI 0,kI (-1),kI 0]) [[kS a0,kB a1,.sl 1 (List.map dS a2) 3,kB a3,.os 2 11 0 a4.length],[.arr 11 (List.map Ja a4)]] [9]⟩
def Jgk:GI→Prop:=Sg5 JkA JfZ
theorem Juc:∀ g,Jgk g→Jm Tryz.prog 85 g:=by
 rintro _ ⟨a0,a1,a2,a3,a4,r,H,rfl⟩
 refine xGn mixed [] [] [] trivial trivial trivial Tryz.func85 _ ?_
 have G:=True.intro
 have Y:=xZ y_3 <| xZ y_4 <| xZ y_9 <| xZ y_24 <| xZ y_29 <| xZ y_31 <| xZ y_41 <| xZ y_44 <| xZ y_63 <| xZ Tryz.results85 <| xZ Jl.eq_1 <| xZ Ja.eq_1 <| xZ Jf.eq_1 <| xZ JU.eq_1 <| JfZ.eq_1
 dsimp only[JfZ]
 unfold JkA at H
 refine xS ?_
 refine xr ?_
 refine xr ?_
 refine JG (Jhx a1 a3 a4) (fun s=>[(0,.c (.pt 1 0)),(2,.c (.pt 3 0)),(8,.c (.os 2 11 0 a4.length)),(9,cI s.1),(10,cI s.2)]) (fun s=>[[kS a0,kB a1,.sl 1 (List.map dS a2) 4,kB a3,.os 2 11 0 a4.length],[.arr 11 (List.map Ja a4)],[kI 0,kI 0,kI 0]]) [9] H (xK ⟨[1,2,4],[3]⟩) ?_
 rintro n1 ⟨x1,x2⟩ o1 H hF1
 rw[Jhx]at H
 refine xS ?_
 refine xr ?_
 rcases xB Y G H with⟨p,H,F,G,q⟩|⟨p,H,F,G,q⟩
 ·refine xT0 ?_
  refine VA ?_
  refine Jj ?_
  refine Jn (Jfo x1 x2) (fun s=>[(0,.c (.pt 1 0)),(2,.c (.pt 3 0)),(8,.c (.os 2 11 0 a4.length)),(9,cI x1),(10,cI x2)]) (fun s=>[[kS a0,kB a1,.sl 1 (List.map dS a2) 4,kB a3,.os 2 11 0 a4.length],[.arr 11 (List.map Ja a4)],[kI 0,kI 0,kI 0]]) [9] o1 ?_ ?_
  ·refine xS ?_
   obtain⟨g,H⟩:=Jc H
   obtain⟨g,H⟩:=Jc H
   have F:=xZ Y (Jh Ja a4 x2.toNat default default (by omega))
   refine xR ?_
   refine xr ?_
   rcases xB Y G H with⟨p,H,F,G,q⟩|⟨p,H,F,G,q⟩
   ·refine xT0 ?_
    refine Kf ?_
    refine Jn (Jfp x1 x2) (fun s=>[(0,.c (.pt 1 0)),(2,.c (.pt 3 0)),(3,cI x2),(8,.c (.os 2 11 0 a4.length)),(9,cI x1),(10,cI x2),(27,cB s)]) (fun s=>[[kS a0,kB a1,.sl 1 (List.map dS a2) 4,kB a3,.os 2 11 0 a4.length],[.arr 11 (List.map Ja a4)],[kI 0,kI 0,kI 0]]) [9] o1 ?_ ?_
    ·rcases xB Y G H with⟨p,H,F,G,q⟩|⟨p,H,F,G,q⟩
     ·refine xR ?_
      exact Jb H (xK ⟨[1,2,3],[4]⟩)
     refine xR ?_
     exact Jb H (xK ⟨[1,2,3],[4]⟩)
    rintro x3 H
    rw[Jfp]at H
    rcases xB Y G H with⟨p,H,F,G,q⟩|⟨p,H,F,G,q⟩
    ·refine xT ?_
     cases H
    refine xE ?_
    exact Jb H (xK ⟨[1,2,3],[4]⟩)
   refine xE0 ?_
   refine VA ?_
   refine Jj ?_
   refine Jag ?_
   refine Jn (JdP a1 a4 x1 x2) (fun s=>[(0,.c (.pt 1 0)),(2,.c (.pt 3 0)),(3,cI x2),(4,.c (.pt 4 0)),(8,.c (.os 2 11 0 a4.length)),(9,cI x1),(10,cI x2),(34,cB s.1)]) (fun s=>[[kS a0,kB a1,.sl 1 (List.map dS a2) 5,kB a3,.os 2 11 0 a4.length],[.arr 11 (List.map Ja a4)],[kI 0,kI 0,kI 0],[kI s.2.1,kS s.2.2.1,kB s.2.2.2.1,kB s.2.2.2.2.1,kI s.2.2.2.2.2.1,kI s.2.2.2.2.2.2.1,kI s.2.2.2.2.2.2.2.1,kI s.2.2.2.2.2.2.2.2.1,.d (.sl 1 (List.map dS s.2.2.2.2.2.2.2.2.2.1)),.d (.sl 3 (List.map Jl s.2.2.2.2.2.2.2.2.2.2.1)),kI s.2.2.2.2.2.2.2.2.2.2.2]]) [9] o1 ?_ ?_
   ·rcases xB Y G H with⟨p,H,F,G,q⟩|⟨p,H,F,G,q⟩
    ·rcases xB F G H with⟨p,H,F,G,q⟩|⟨p,H,F,G,q⟩
     ·refine xR ?_
      exact Jb H (xK ⟨[1,2,3,5],[4]⟩)
     refine xR ?_
     exact Jb H (xK ⟨[1,2,3,5],[4]⟩)
    refine xR ?_
    exact Jb H (xK ⟨[1,2,3,5],[4]⟩)
   rintro ⟨x4,x5,x6,x7,x8,x9,x10,x11,x12,x13,x14,x15⟩ H
   rw[JdP]at H
   rcases xB Y G H with⟨p,H,F,G,q⟩|⟨p,H,F,G,q⟩
   ·refine xT ?_
    cases H
   refine xE0 ?_
   refine Jn (JdM x1 x2) (fun s=>[(0,.c (.pt 1 0)),(2,.c (.pt 3 0)),(3,cI x2),(8,.c (.os 2 11 0 a4.length)),(9,cI x1),(10,cI x2),(58,cB s)]) (fun s=>[[kS a0,kB a1,.sl 1 (List.map dS a2) 4,kB a3,.os 2 11 0 a4.length],[.arr 11 (List.map Ja a4)],[kI 0,kI 0,kI 0]]) [9] o1 ?_ ?_
   ·rcases xB Y G H with⟨p,H,F,G,q⟩|⟨p,H,F,G,q⟩
    ·rcases xB F G H with⟨p,H,F,G,q⟩|⟨p,H,F,G,q⟩
     ·rcases xB F G H with⟨p,H,F,G,q⟩|⟨p,H,F,G,q⟩
      ·refine xR ?_
       exact Jb H (xK ⟨[1,2,3],[5]⟩)
      obtain⟨g,H⟩:=Jc H
      obtain⟨g,H⟩:=Jc H
      have F:=xZ F (Jh Ja a4 ((IntKind.i64.wrap (x2+1)).toNat) default default (by omega))
      cases H
     refine xR ?_
     exact Jb H (xK ⟨[1,2,3],[5]⟩)
    refine xR ?_
    exact Jb H (xK ⟨[1,2,3],[5]⟩)
   rintro x16 H
   rw[JdM]at H
   rcases xB Y G H with⟨p,H,F,G,q⟩|⟨p,H,F,G,q⟩
   ·refine xT ?_
    cases H
   refine xE ?_
   exact Jb H (xK ⟨[1,2,3],[4]⟩)
  rintro ⟨⟩ H
  rw[Jfo]at H
  refine xr ?_
  exact Jw (JA H hF1) (xK ⟨[1,2,3],[4]⟩)
 replace H:=Jq H hF1
 refine xE ?_
 refine xr ?_
 refine xrD [] ?_
 exact xO ⟨[1,2],[4]⟩
theorem Jvf:Jd Tryz.prog 85∧(∀ g,Jgk g→Jm Tryz.prog 85 g)∧(true=true→∀ g,Jgk g→∃ val bs ts,g.out=.ret val bs ts) :=
 ⟨JDg,Juc,fun _=>by rintro _ ⟨_,_,_,_,_,_,_,rfl⟩; exact⟨_,_,_,rfl⟩⟩
noncomputable def JeO(x5:List Token)(x6 x7:Int)(x8:List Token):(Int×(List UInt8)×Bool×Bool×Int×Int×Int×Int×YV×(List Call)×Int)→Option Ym
 | (x9,x10,x11,x12,x13,x14,x15,x16,x17,x18,x19)=>if(x8.length + [(⟨x9,x10,x11,false,x13,x14,x15,x16,([]:List (List UInt8)),([]:List Call),x19⟩:Token)].length) * 120≤140737488355328 then some (.inl (x5,x6,IntKind.i64.wrap (x7+1),x8++[(⟨x9,x10,x11,false,x13,x14,x15,x16,([]:List (List UInt8)),([]:List Call),x19⟩:Token)])) else none
noncomputable def JgP(x4:List UInt8):((List Token)×Int×Int×(List Token))→Option Ym
 | (x5,x6,x7,x8)=>if(ltI x7 x6)=true then if(0:Int)≤x7∧x7.toNat<x5.length then if((x5.getD x7.toNat default).Space)=true then JeO x5 x6 x7 x8 ((x5.getD x7.toNat default).Kind,(x5.getD x7.toNat default).Text,ltI 0 x7,(x5.getD x7.toNat default).First,(x5.getD x7.toNat default).File,(x5.getD x7.toNat default).At,(x5.getD x7.toNat default).End,(x5.getD x7.toNat default).Line,(x5.getD x7.toNat default).Hide,(x5.getD x7.toNat default).Calls,(x5.getD x7.toNat default).Made) else JeO x5 x6 x7 x8 ((x5.getD x7.toNat default).Kind,(x5.getD x7.toNat default).Text,false,(x5.getD x7.toNat default).First,(x5.getD x7.toNat default).File,(x5.getD x7.toNat default).At,(x5.getD x7.toNat default).End,(x5.getD x7.toNat default).Line,(x5.getD x7.toNat default).Hide,(x5.getD x7.toNat default).Calls,(x5.getD x7.toNat default).Made) else none else inrO ((JkA x4 false ([]:List (List UInt8)) false x8).bind fun r2=>some ((⟨x4,false,([]:List (List UInt8)),false,x8⟩:Macro),(⟨0,(-1),0⟩:Fault)))
noncomputable def JcZ(a0:List Token):(Bool×(List UInt8))→Option (Macro×Fault)
 | (x3,x4)=>if x3=true then none else if(ltI 60 (IntKind.i64.wrap ((a0.length:Int)-1)))=true then none else if(0:Int)≤1∧1≤(a0.length:Int)∧(a0.length:Int)≤(a0.length:Int) then Jv (JgP x4) (List.drop 1 a0,((List.drop 1 a0).length:Int),0,([]:List Token)) else none
noncomputable def JeT(a0:List Token):(Bool×(List UInt8))→Option (Macro×Fault)
 | (x1,x2)=>if x1=true then none else if 0<a0.length then(JdS ((a0.getD 0 default).Text)).bind fun r1=>if r1=true then none else if 0<a0.length then if(ltI 1 (a0.length:Int))=true then if 1<a0.length then if(eqS ((a0.getD 1 default).Text) [40])=true then if 1<a0.length then JcZ a0 (!((a0.getD 1 default).Space),(a0.getD 0 default).Text) else none else JcZ a0 (false,(a0.getD 0 default).Text) else none else JcZ a0 (false,(a0.getD 0 default).Text) else none else none
noncomputable def Jhc(a0:List Token):Option (Macro×Fault) :=
 if(eqI (a0.length:Int) 0)=true then JeT a0 (true,[]) else if 0<a0.length then JeT a0 (!eqI ((a0.getD 0 default).Kind) 1,[]) else none
noncomputable def Jg1:PF:=PF.of (E1 (dL 11 Ja)) (fun a=>Jhc a) (T2 Jf JU)
theorem Jqe:JB Tryz.prog 56 Jg1:=by
 refine xF mixed [(58,Jdl)] [(85,true,Jgk)] ⟨⟨Jxk,Jil⟩,trivial⟩ ⟨Jvf,trivial⟩ Tryz.func56 ?_
 rintro a0 out H
 have G:=True.intro
 have Y:=xZ y_3 <| xZ y_4 <| xZ y_9 <| xZ y_24 <| xZ y_29 <| xZ y_31 <| xZ y_41 <| xZ y_42 <| xZ y_44 <| xZ y_63 <| xZ Tryz.results56 <| xZ Jl.eq_1 <| xZ Ja.eq_1 <| xZ Jf.eq_1 <| xZ JU.eq_1 <| JfZ.eq_1
 simp only[Jhc]at H
 refine xS ?_
 refine xr ?_
 refine xr0 ?_
 refine Jj ?_
 refine Kf ?_
 refine Jn (JeT a0) (fun s=>[(0,.c (.d (.sl 11 (List.map Ja a0)))),(2,.c (.pt 1 0)),(3,.c (.pt 2 0)),(4,.c (.d (.v (.func (.func 82) #[] #[])))),(21,cB s.1)]) (fun s=>[[kS s.2,kB false,.sl 1 [] 0,kB false,.sl 11 [] 0],[kI 0,kI 0,kI 0]]) [] out ?_ ?_
 ·rcases xB Y G H with⟨p,H,F,G,q⟩|⟨p,H,F,G,q⟩
  ·refine xR ?_
   exact Jb H (xK ⟨[1,2],[]⟩)
  obtain⟨g,H⟩:=Jc H
  have F:=xZ F (Jh Ja a0 0 default default (by omega))
  refine xR ?_
  exact Jb H (xK ⟨[1,2],[]⟩)
 rintro ⟨x1,x2⟩ H
 rw[JeT]at H
 rcases xB Y G H with⟨p,H,F,G,q⟩|⟨p,H,F,G,q⟩
 ·refine xT ?_
  cases H
 refine xE ?_
 obtain⟨g,H⟩:=Jc H
 have F:=xZ Y (Jh Ja a0 0 default default (by omega))
 obtain⟨r1,hr1,H⟩:=Ji H
 have F:=xCf F (JiU ((a0.getD 0 default).Text) r1 hr1)
 refine xR ?_
 rcases xB Y G H with⟨p,H,F,G,q⟩|⟨p,H,F,G,q⟩
 ·refine xT ?_
  cases H
 refine xE ?_
 obtain⟨g,H⟩:=Jc H
 have F:=xZ Y (Jh Ja a0 0 default default (by omega))
 refine xR ?_
 refine xr0 ?_
 refine Jj ?_
 refine Kf ?_
 refine Jn (JcZ a0) (fun s=>[(0,.c (.d (.sl 11 (List.map Ja a0)))),(2,.c (.pt 1 0)),(3,.c (.pt 2 0)),(4,.c (.d (.v (.func (.func 82) #[] #[])))),(5,.c (.pt 3 0)),(6,cI 1),(63,cB s.1)]) (fun s=>[[kS x2,kB false,.sl 1 [] 0,kB false,.sl 11 [] 0],[kI 0,kI 0,kI 0],[kS s.2,kB false,.sl 1 [] 0,kB false,.sl 11 [] 0]]) [] out ?_ ?_
 ·rcases xB Y G H with⟨p,H,F,G,q⟩|⟨p,H,F,G,q⟩
  ·obtain⟨g,H⟩:=Jc H
   have F:=xZ F (Jh Ja a0 1 default default (by omega))
   rcases xB F G H with⟨p,H,F,G,q⟩|⟨p,H,F,G,q⟩
   ·obtain⟨g,H⟩:=Jc H
    have F:=xZ F (Jh Ja a0 1 default default (by omega))
    refine xR ?_
    exact Jb H (xK ⟨[1,2,3],[]⟩)
   refine xR ?_
   exact Jb H (xK ⟨[1,2,3],[]⟩)
  refine xR ?_
  exact Jb H (xK ⟨[1,2,3],[]⟩)
 rintro ⟨x3,x4⟩ H
 rw[JcZ]at H
 rcases xB Y G H with⟨p,H,F,G,q⟩|⟨p,H,F,G,q⟩
 ·refine xT ?_
  refine xr ?_
  cases H
 refine xE ?_
 refine xr ?_
 rcases xB Y G H with⟨p,H,F,G,q⟩|⟨p,H,F,G,q⟩
 ·refine xT ?_
  cases H
 refine xE ?_
 obtain⟨g,H⟩:=Jc H
 refine xr ?_
 refine JG (JgP x4) (fun s=>[(2,.c (.pt 1 0)),(3,.c (.pt 2 0)),(4,.c (.d (.v (.func (.func 82) #[] #[])))),(5,.c (.pt 3 0)),(96,.c (.d (.sl 11 (List.map Ja s.1)))),(97,cI s.2.1),(98,cI s.2.2.1)]) (fun s=>[[kS x2,kB false,.sl 1 [] 0,kB false,.sl 11 [] 0],[kI 0,kI 0,kI 0],[kS x4,kB false,.sl 1 [] 0,kB false,.os 4 11 0 s.2.2.2.length],[.arr 11 (List.map Ja s.2.2.2)]]) [] H (xK ⟨[1,2,3,0],[]⟩) ?_
 rintro n1 ⟨x5,x6,x7,x8⟩ o1 H hF1
 rw[JgP]at H
 refine xS ?_
 refine xr ?_
 rcases xB Y G H with⟨p,H,F,G,q⟩|⟨p,H,F,G,q⟩
 ·refine xT ?_
  obtain⟨g,H⟩:=Jc H
  have F:=xZ Y (Jh Ja x5 x7.toNat default default (by omega))
  refine xR0 ?_
  refine Jj ?_
  refine Jn (JeO x5 x6 x7 x8) (fun s=>[(2,.c (.pt 1 0)),(3,.c (.pt 2 0)),(4,.c (.d (.v (.func (.func 82) #[] #[])))),(5,.c (.pt 3 0)),(10,.c (.pt 4 0)),(96,.c (.d (.sl 11 (List.map Ja x5)))),(97,cI x6),(98,cI x7)]) (fun s=>[[kS x2,kB false,.sl 1 [] 0,kB false,.sl 11 [] 0],[kI 0,kI 0,kI 0],[kS x4,kB false,.sl 1 [] 0,kB false,.os 5 11 0 x8.length],[kI s.1,kS s.2.1,kB s.2.2.1,kB s.2.2.2.1,kI s.2.2.2.2.1,kI s.2.2.2.2.2.1,kI s.2.2.2.2.2.2.1,kI s.2.2.2.2.2.2.2.1,.d (.sl 1 (List.map dS s.2.2.2.2.2.2.2.2.1)),.d (.sl 3 (List.map Jl s.2.2.2.2.2.2.2.2.2.1)),kI s.2.2.2.2.2.2.2.2.2.2],[.arr 11 (List.map Ja x8)]]) [] o1 ?_ ?_
  ·rcases xB Y G H with⟨p,H,F,G,q⟩|⟨p,H,F,G,q⟩
   ·refine xR ?_
    exact Jb H (xK ⟨[1,2,3,5,4],[]⟩)
   refine xR ?_
   exact Jb H (xK ⟨[1,2,3,5,4],[]⟩)
  rintro ⟨x9,x10,x11,x12,x13,x14,x15,x16,x17,x18,x19⟩ H
  rw[JeO]at H
  refine xS ?_
  refine xr ?_
  obtain⟨g,H⟩:=Jc H
  have F:=xZ Y (JH KL [(⟨x9,x10,x11,false,x13,x14,x15,x16,([]:List (List UInt8)),([]:List Call),x19⟩:Token)])
  have L:[(⟨x9,x10,x11,false,x13,x14,x15,x16,([]:List (List UInt8)),([]:List Call),x19⟩:Token)].length=1:=rfl
  refine xR ?_
  refine xr ?_
  exact Jw (JA H hF1) (xK ⟨[1,2,3,6],[]⟩)
 replace H:=Jq H hF1
 refine xE ?_
 obtain⟨r2,hr2,H⟩:=Ji H
 have F:=Y
 refine xQ ?_
 refine xc ⟨[3,4],[0]⟩ (tabG 0 (cg5 hr2)) ?_
 refine xs 2 ?_
 refine xl ?_
 refine xS ?_
 refine xr ?_
 refine xe ?_
 replace H:=oI H
 refine xr ?_
 subst H
 refine xNf 4 11 (List.map Ja x8) [] ?_
 exact xN
theorem Jua(a0:List Token)(r:Macro×Fault)(H:Jhc a0=some r):PC Jg1 [(dL 11 Ja) a0] (T2 Jf JU r):=PF.c (a:=a0) H
noncomputable def JgC(a0:List Macro)(a1:Macro):Option ((List Macro)×Int) :=
 (V9 a0 a1.Name).bind fun r1=>if(leI 0 r1)=true then if(0:Int)≤r1∧r1.toNat<a0.length then none else none else if(leI 30 (a0.length:Int))=true then some (([]:List Macro),5) else(J6 a0).bind fun r2=>if(a0.length + [a1].length) * 80≤140737488355328 then some (a0++[a1],0) else none
noncomputable def JgF:PF:=PF.of (E2 (dL 5 Jf) Jf) (fun a=>JgC a.1 a.2) (T2 (dL 5 Jf) dI)
theorem Jn1:JB Tryz.prog 57 JgF:=by
 refine xFl mixed [8] [(86,JdN)] [(21,true,JZ)] ⟨⟨Jqq,Jhy⟩,trivial⟩ ⟨JL,trivial⟩ Tryz.func57 ?_
 rintro ⟨a0,a1⟩ out H
 have G:=True.intro
 have Y:=xZ y_9 <| xZ y_28 <| xZ y_63 <| xZ Tryz.results57 <| xZ Jl.eq_1 <| xZ Ja.eq_1 <| xZ Jf.eq_1 <| Vz.eq_1
 simp only[JgC]at H
 refine xS ?_
 refine xr ?_
 obtain⟨r1,hr1,H⟩:=Ji H
 have F:=xC Y (Jh4 a0 a1.Name r1 hr1)
 refine xR ?_
 refine xr ?_
 rcases xB Y G H with⟨p,H,F,G,q⟩|⟨p,H,F,G,q⟩
 ·refine xT ?_
  obtain⟨g,H⟩:=Jc H
  have F:=xZ Y (Jh Jf a0 r1.toNat default default (by omega))
  cases H
 refine xE ?_
 refine xr ?_
 rcases xB Y G H with⟨p,H,F,G,q⟩|⟨p,H,F,G,q⟩
 ·refine xT ?_
  replace H:=oI H
  refine xr ?_
  subst H
  exact xN
 refine xE ?_
 obtain⟨r2,hr2,H⟩:=Ji H
 have F:=Y
 obtain⟨g,H⟩:=Jc H
 have F:=xZ F (JH Jts [a1])
 have L:[a1].length=1:=rfl
 refine xP [0,2,3,1,4,5,6] [27] ⟨JL,trivial⟩ ?_
 refine xsX 1 ?_
 refine xaX ?_
 refine xsX 1 ?_
 refine xcX ⟨[],[]⟩ (tabG 0 (cg1 hr2)) ?_
 refine xbX ?_
 refine xsX 2 ?_
 refine xlX ?_
 replace H:=oI H
 refine xS ?_
 subst H
 refine xNf 3 5 (List.map Jf (a0++[a1])) [] ?_
 exact xN
theorem Jqd(a0:List Macro)(a1:Macro)(r:(List Macro)×Int)(H:JgC a0 a1=some r):PC JgF [(dL 5 Jf) a0,Jf a1] (T2 (dL 5 Jf) dI r):=PF.c (a:=(a0,a1)) H
noncomputable def XG(a0:List Int)(a1:Int):(Int×Int)→Option YW
 | (x1,x2)=>if(ltI x2 x1)=true then if(0:Int)≤x2∧x2.toNat<a0.length then if(eqI a1 (a0.getD x2.toNat default))=true then inrO (some x2) else some (.inl (x1,IntKind.i64.wrap (x2+1))) else none else inrO (some (-1))
noncomputable def V8(a0:List Int)(a1:Int):Option Int :=
 Jv (XG a0 a1) ((a0.length:Int),0)
noncomputable def Jbc:PF:=PF.of (E2 (dL 1 dI) dI) (fun a=>V8 a.1 a.2) dI
theorem JhP:JB Tryz.prog 116 Jbc:=by
 refine xF mixed [] [] trivial trivial Tryz.func116 ?_
 rintro ⟨a0,a1⟩ out H
 have G:=True.intro
 have Y:=xZ y_3 <| xZ y_25 <| Tryz.results116
 simp only[V8]at H
 refine xS ?_
 refine xr ?_
 refine xr ?_
 refine JG (XG a0 a1) (fun s=>[(0,.c (.d (.sl 1 (List.map dI a0)))),(1,cI a1),(7,cI s.1),(8,cI s.2)]) (fun s=>[]) [] H (xK ⟨[],[]⟩) ?_
 rintro n1 ⟨x1,x2⟩ o1 H hF1
 rw[XG]at H
 refine xS ?_
 refine xr ?_
 rcases xB Y G H with⟨p,H,F,G,q⟩|⟨p,H,F,G,q⟩
 ·refine xT ?_
  refine xr ?_
  obtain⟨g,H⟩:=Jc H
  have F:=xZ Y (Jh dI a0 x2.toNat default default (by omega))
  refine xR ?_
  rcases xB Y G H with⟨p,H,F,G,q⟩|⟨p,H,F,G,q⟩
  ·refine xT ?_
   replace H:=Jq H hF1
   replace H:=oI H
   refine xr ?_
   subst H
   exact xN
  refine xE ?_
  refine xr ?_
  exact Jw (JA H hF1) (xK ⟨[],[]⟩)
 replace H:=Jq H hF1
 refine xE ?_
 replace H:=oI H
 refine xr ?_
 subst H
 exact xN
theorem Jiq(a0:List Int)(a1 r:Int)(H:V8 a0 a1=some r):PC Jbc [(dL 1 dI) a0,dI a1] (dI r):=PF.c (a:=(a0,a1)) H
noncomputable def KJ(a0:List Int)(a1:Int):Option Bool :=
 (V8 a0 a1).bind fun r1=>some (leI 0 r1)
noncomputable def ZB:PF:=PF.of (E2 (dL 1 dI) dI) (fun a=>KJ a.1 a.2) dB
theorem JgW:JB Tryz.prog 91 ZB:=by
 refine xF mixed [(116,Jbc)] [] ⟨⟨JBh,JhP⟩,trivial⟩ trivial Tryz.func91 ?_
 rintro ⟨a0,a1⟩ out H
 have G:=True.intro
 have Y:=Tryz.results91
 simp only[KJ]at H
 refine xS ?_
 refine xr ?_
 obtain⟨r1,hr1,H⟩:=Ji H
 have F:=xC Y (Jiq a0 a1 r1 hr1)
 replace H:=oI H
 refine xR ?_
 subst H
 exact xN
theorem Jhm(a0:List Int)(a1:Int)(r:Bool)(H:KJ a0 a1=some r):PC ZB [(dL 1 dI) a0,dI a1] (dB r):=PF.c (a:=(a0,a1)) H
def Jk5(a0:Int)(a1:List Source)(a2 a3 a4:Int)(a5:List Macro)(a6 a7:List Int)(a8:Int)(a9:List Token):GR Yh Yl→GOut
 | .ok r=>.ret (.tu []) [[.d (.sl 2 (List.map Jg a1)),kI r.1,kI a3,kI a4,.d (.sl 5 (List.map Jf r.2.1)),.sl 1 (List.map dI r.2.2.1) 4,.os 3 11 0 r.2.2.2.2.2.length,.sl 1 (List.map dI r.2.2.2.1) 5,kI r.2.2.2.2.1],[],[.arr 11 (List.map Ja r.2.2.2.2.2)]] [3,3]
 | .er r=>.pan (.iface 78 (.agg ⟨[.int .i64 r.1,.int .i64 r.2.1,.int .i64 r.2.2.1]⟩)) [[.d (.sl 2 (List.map Jg a1)),kI r.2.2.2.1,kI a3,kI a4,.d (.sl 5 (List.map Jf r.2.2.2.2.1)),.sl 1 (List.map dI r.2.2.2.2.2.1) 4,.os 3 11 0 r.2.2.2.2.2.2.2.2.length,.sl 1 (List.map dI r.2.2.2.2.2.2.1) 5,kI r.2.2.2.2.2.2.2.1],[],[.arr 11 (List.map Ja r.2.2.2.2.2.2.2.2)]] [3,3]
def Zw(a0:Int)(a1:List Source)(a2 a3 a4:Int)(a5:List Macro)(a6 a7:List Int)(a8:Int)(a9:List Token)(r:GR Yh Yl):GI :=
 ⟨[.c (.pt 1 0),cI a0],[[.d (.sl 2 (List.map Jg a1)),kI a2,kI a3,kI a4,.d (.sl 5 (List.map Jf a5)),.sl 1 (List.map dI a6) 3,.os 2 11 0 a9.length,.sl 1 (List.map dI a7) 4,kI a8],[.arr 11 (List.map Ja a9)]],[3,3],Jk5 a0 a1 a2 a3 a4 a5 a6 a7 a8 a9 r⟩
def K7(q:Int→(List Source)→Int→Int→Int→(List Macro)→(List Int)→(List Int)→Int→(List Token)→Option Yc):GI→Prop:=Sg10 q Zw
def Jkx(a0:List Token)(a1:List Source)(a2 a3 a4:Int)(a5:List Macro)(a6 a7:List Int)(a8:Int)(a9:List Token):GR Yh Yl→GOut
 | .ok r=>.ret (.tu []) [[.d (.sl 2 (List.map Jg a1)),kI r.1,kI a3,kI a4,.d (.sl 5 (List.map Jf r.2.1)),.sl 1 (List.map dI r.2.2.1) 4,.os 3 11 0 r.2.2.2.2.2.length,.sl 1 (List.map dI r.2.2.2.1) 5,kI r.2.2.2.2.1],[],[.arr 11 (List.map Ja r.2.2.2.2.2)]] [3,3]
 | .er r=>.pan (.iface 78 (.agg ⟨[.int .i64 r.1,.int .i64 r.2.1,.int .i64 r.2.2.1]⟩)) [[.d (.sl 2 (List.map Jg a1)),kI r.2.2.2.1,kI a3,kI a4,.d (.sl 5 (List.map Jf r.2.2.2.2.1)),.sl 1 (List.map dI r.2.2.2.2.2.1) 4,.os 3 11 0 r.2.2.2.2.2.2.2.2.length,.sl 1 (List.map dI r.2.2.2.2.2.2.1) 5,kI r.2.2.2.2.2.2.2.1],[],[.arr 11 (List.map Ja r.2.2.2.2.2.2.2.2)]] [3,3]
def Jbi(a0:List Token)(a1:List Source)(a2 a3 a4:Int)(a5:List Macro)(a6 a7:List Int)(a8:Int)(a9:List Token)(r:GR Yh Yl):GI :=
 ⟨[.c (.pt 1 0),.c (.d (.sl 11 (List.map Ja a0)))],[[.d (.sl 2 (List.map Jg a1)),kI a2,kI a3,kI a4,.d (.sl 5 (List.map Jf a5)),.sl 1 (List.map dI a6) 3,.os 2 11 0 a9.length,.sl 1 (List.map dI a7) 4,kI a8],[.arr 11 (List.map Ja a9)]],[3,3],Jkx a0 a1 a2 a3 a4 a5 a6 a7 a8 a9 r⟩
def Vq(q:(List Token)→(List Source)→Int→Int→Int→(List Macro)→(List Int)→(List Int)→Int→(List Token)→Option Yc):GI→Prop:=Sg10 q Jbi
def Ji0(a0:List Token)(a1:List Source)(a2 a3 a4:Int)(a5:List Macro)(a6 a7:List Int)(a8:Int)(a9:List Token):GR Yh Yl→GOut
 | .ok r=>.ret (.tu []) [[.d (.sl 2 (List.map Jg a1)),kI r.1,kI a3,kI a4,.d (.sl 5 (List.map Jf r.2.1)),.sl 1 (List.map dI r.2.2.1) 4,.os 3 11 0 r.2.2.2.2.2.length,.sl 1 (List.map dI r.2.2.2.1) 5,kI r.2.2.2.2.1],[],[.arr 11 (List.map Ja r.2.2.2.2.2)]] [3,3]
 | .er r=>.pan (.iface 78 (.agg ⟨[.int .i64 r.1,.int .i64 r.2.1,.int .i64 r.2.2.1]⟩)) [[.d (.sl 2 (List.map Jg a1)),kI r.2.2.2.1,kI a3,kI a4,.d (.sl 5 (List.map Jf r.2.2.2.2.1)),.sl 1 (List.map dI r.2.2.2.2.2.1) 4,.os 3 11 0 r.2.2.2.2.2.2.2.2.length,.sl 1 (List.map dI r.2.2.2.2.2.2.1) 5,kI r.2.2.2.2.2.2.2.1],[],[.arr 11 (List.map Ja r.2.2.2.2.2.2.2.2)]] [3,3]
def ZQ(a0:List Token)(a1:List Source)(a2 a3 a4:Int)(a5:List Macro)(a6 a7:List Int)(a8:Int)(a9:List Token)(r:GR Yh Yl):GI :=
 ⟨[.c (.pt 1 0),.c (.d (.sl 11 (List.map Ja a0)))],[[.d (.sl 2 (List.map Jg a1)),kI a2,kI a3,kI a4,.d (.sl 5 (List.map Jf a5)),.sl 1 (List.map dI a6) 3,.os 2 11 0 a9.length,.sl 1 (List.map dI a7) 4,kI a8],[.arr 11 (List.map Ja a9)]],[3,3],Ji0 a0 a1 a2 a3 a4 a5 a6 a7 a8 a9 r⟩
def K5(q:(List Token)→(List Source)→Int→Int→Int→(List Macro)→(List Int)→(List Int)→Int→(List Token)→Option Yc):GI→Prop:=Sg10 q ZQ
noncomputable def Kw(x2 x3:Int):(Nat×Int×(List Macro)×(List Int)×(List Int)×Int×YY×(List Token)×(List Token))→Option Ya
 | (x12,x13,x14,x15,x16,x17,x18,x19,x20)=>some (.inl (x12,x2,IntKind.i64.wrap (x3+1),x13,x14,x15,x16,x17,x18,x19,x20))
noncomputable def VP(x2 x3 x4:Int)(x5:List Macro)(x6 x7:List Int)(x8:Int)(x9:List drive_group)(x11:List Token):YS→Option Ya
 | (x24,x25)=>Kw x2 x3 (x24,x4,x5,x6,x7,x8,x9,x25,x11)
noncomputable def K9(q2:(List Token)→(List Source)→Int→Int→Int→(List Macro)→(List Int)→(List Int)→Int→(List Token)→Option Yc)(a1:List Source)(a3 a4 x2 x3:Int)(x5:List Macro)(x6 x7:List Int)(x8:Int)(x22:List Token)(r5:YO)(r6:Yx):(Nat×Bool)→Option Ya
 | (x26,x27)=>if x27=true then grB (q2 x22 a1 r6.2.2.1 a3 a4 x5 x6 x7 x8 r5.2) (fun r7=>Kw x2 x3 (x26,r7.1,r7.2.1,r7.2.2.1,r7.2.2.2.1,r7.2.2.2.2.1,r6.2.2.2,([]:List Token),r7.2.2.2.2.2)) (fun e4=>inrO (some (.er (e4.1,e4.2.1,e4.2.2.1,e4.2.2.2.1,e4.2.2.2.2.1,e4.2.2.2.2.2.1,e4.2.2.2.2.2.2.1,e4.2.2.2.2.2.2.2.1,e4.2.2.2.2.2.2.2.2)))) else Kw x2 x3 (x26,r6.2.2.1,x5,x6,x7,x8,r6.2.2.2,([]:List Token),r5.2)
noncomputable def VO(q2:(List Token)→(List Source)→Int→Int→Int→(List Macro)→(List Int)→(List Int)→Int→(List Token)→Option Yc)(a1:List Source)(a3 a4 x2 x3 x4:Int)(x5:List Macro)(x6 x7:List Int)(x8:Int)(x9:List drive_group)(x10 x11:List Token):(Nat×(List Token)×Bool)→Option Ya
 | (x21,x22,x23)=>if x23=true then(KT x21 x9).bind fun r4=>if r4=true then if(x10.length+x22.length) * 120≤140737488355328 then VP x2 x3 x4 x5 x6 x7 x8 x9 x11 (x21,x10++x22) else none else VP x2 x3 x4 x5 x6 x7 x8 x9 x11 (x21,x10) else grB (KZ x10 a1 x4 a3 a4 x5 x6 x7 x8 x11) (fun r5=>if(eqI (x22.length:Int) 1)=true then Kw x2 x3 (x21,r5.1,x5,x6,x7,x8,x9,([]:List Token),r5.2) else grB (KB x21 x22 a1 r5.1 a3 a4 x5 x6 x7 x8 x9 r5.2) (fun r6=>if(!r6.2.1)=true then(KT r6.1 r6.2.2.2).bind fun r8=>K9 q2 a1 a3 a4 x2 x3 x5 x6 x7 x8 x22 r5 r6 (r6.1,r8) else K9 q2 a1 a3 a4 x2 x3 x5 x6 x7 x8 x22 r5 r6 (r6.1,false)) (fun e3=>inrO (some (.er (e3.1,e3.2.1,e3.2.2.1,e3.2.2.2,x5,x6,x7,x8,r5.2))))) (fun e2=>inrO (some (.er (e2.1,e2.2.1,e2.2.2.1,e2.2.2.2.1,x5,x6,x7,x8,e2.2.2.2.2))))
noncomputable def JP(q2:(List Token)→(List Source)→Int→Int→Int→(List Macro)→(List Int)→(List Int)→Int→(List Token)→Option Yc)(a1:List Source)(a3 a4:Int)(r3:YX):(Nat×Int×Int×Int×(List Macro)×(List Int)×(List Int)×Int×YY×(List Token)×(List Token))→Option Ya
 | (x1,x2,x3,x4,x5,x6,x7,x8,x9,x10,x11)=>if(ltI x3 x2)=true then if(0:Int)≤x3∧x3.toNat<r3.length then if 0<(r3.getD x3.toNat default).length then if(!eqS (((r3.getD x3.toNat default).getD 0 default).Text) [35])=true then VO q2 a1 a3 a4 x2 x3 x4 x5 x6 x7 x8 x9 x10 x11 (x1,(r3.getD x3.toNat default),true) else if 0<(r3.getD x3.toNat default).length then VO q2 a1 a3 a4 x2 x3 x4 x5 x6 x7 x8 x9 x10 x11 (x1,(r3.getD x3.toNat default),!eqI (((r3.getD x3.toNat default).getD 0 default).Kind) 5) else none else none else none else inrO (grB (KZ x10 a1 x4 a3 a4 x5 x6 x7 x8 x11) (fun r9=>if(ltI 0 ((x1:Nat):Int))=true then if x1≤x9.length then if(0:Int)≤(IntKind.i64.wrap (((x1:Nat):Int)-1))∧(IntKind.i64.wrap (((x1:Nat):Int)-1)).toNat<(List.take x1 x9).length then none else none else none else some (.ok (r9.1,x5,x6,x7,x8,r9.2))) (fun e5=>some (.er (e5.1,e5.2.1,e5.2.2.1,e5.2.2.2.1,x5,x6,x7,x8,e5.2.2.2.2))))
noncomputable def Vl(q1:Int→(List Source)→Int→Int→Int→(List Macro)→(List Int)→(List Int)→Int→(List Token)→Option Yc)(q2 q3:(List Token)→(List Source)→Int→Int→Int→(List Macro)→(List Int)→(List Int)→Int→(List Token)→Option Yc)(a0:Int)(a1:List Source)(a2 a3 a4:Int)(a5:List Macro)(a6 a7:List Int)(a8:Int)(a9:List Token):Option Yc :=
 if(a7.length + [a0].length) * 8≤140737488355328 then if(0:Int)≤a0∧a0.toNat<a1.length then(JeQ a0 ((a1.getD a0.toNat default).Text)).bind fun r1=>grB (Jdx r1.2) (fun r2=>(Jey r1.1).bind fun r3=>Jv (JP q2 a1 a3 a4 r3) (0,(r3.length:Int),0,a2,a5,a6,a7++[a0],a8,([]:List drive_group),([]:List Token),a9)) (fun e1=>some (.er (r1.2.Err,r1.2.File,r1.2.At,a2,a5,a6,a7++[a0],a8,a9))) else none else none
theorem JjC(q1:Int→(List Source)→Int→Int→Int→(List Macro)→(List Int)→(List Int)→Int→(List Token)→Option Yc)(q2 q3:(List Token)→(List Source)→Int→Int→Int→(List Macro)→(List Int)→(List Int)→Int→(List Token)→Option Yc)(kq1:Kok Tryz.prog 24 false (K7 q1))(kq2:Kok Tryz.prog 38 false (Vq q2))(kq3:Kok Tryz.prog 60 false (K5 q3)):∀ g,K7 (Vl q1 q2 q3) g→Jm Tryz.prog 24 g:=by
 rintro _ ⟨a0,a1,a2,a3,a4,a5,a6,a7,a8,a9,r,H,rfl⟩
 refine xGn mixed [(32,JhD),(34,Jiu)] [(33,false,JbR),(35,true,JbP),(36,false,Ja6),(37,false,XY),(38,false,(Vq q2))] [] ⟨⟨JDc,Jt3⟩,⟨JCU,JuL⟩,trivial⟩ ⟨JbE,Jim,JjY,Jid,kq2,trivial⟩ trivial Tryz.func24 _ ?_
 have G:=True.intro
 have Y:=xZ y_3 <| xZ y_9 <| xZ y_24 <| xZ y_25 <| xZ y_27 <| xZ y_31 <| xZ y_35 <| xZ y_37 <| xZ y_44 <| xZ y_65 <| xZ y_80 <| xZ y_81 <| xZ y_90 <| xZ Tryz.results24 <| xZ Jg.eq_1 <| xZ Jl.eq_1 <| xZ Ja.eq_1 <| xZ Jf.eq_1 <| xZ Ku.eq_1 <| xZ JU.eq_1 <| xZ Jk.eq_1 <| xZ JbH.eq_1 <| xZ JbG.eq_1 <| xZ Ja4.eq_1 <| xZ XM.eq_1 <| xZ Jbi.eq_1 <| Zw.eq_1
 dsimp only[Zw]
 simp only[Vl]at H
 refine xS ?_
 refine xrn 2 1 ?_
 obtain⟨g,H⟩:=Jc H
 have F:=xZ Y (JH Jju [a0])
 refine xR ?_
 obtain⟨g,H⟩:=Jc H
 have F:=xZ Y (Jh Jg a1 a0.toNat default default (by omega))
 obtain⟨r1,hr1,H⟩:=Ji H
 have F:=xCf F (Ju5 a0 ((a1.getD a0.toNat default).Text) r1 hr1)
 refine xR ?_
 rcases Z3 H with⟨r2,hr2,H⟩|⟨e1,hr3,H⟩
 ·have F:=Y
  refine xQ ?_
  refine xs 1 ?_
  refine xc ⟨[],[]⟩ (tabG 0 (cg1 hr2)) ?_
  refine xl ?_
  refine xS ?_
  refine xr ?_
  refine xr ?_
  obtain⟨r3,hr4,H⟩:=Ji H
  have F:=xC Y (Jw1 r1.1 r3 hr4)
  refine xR ?_
  refine JG (JP q2 a1 a3 a4 r3) (fun s=>[(0,.c (.pt 1 0)),(6,.c (.os 3 14 0 s.1)),(7,.c (.os 4 11 0 s.2.2.2.2.2.2.2.2.2.1.length)),(40,.c (.d (.sl 1 (List.map (dL 11 Ja) r3)))),(41,cI s.2.1),(42,cI s.2.2.1)]) (fun s=>[[.d (.sl 2 (List.map Jg a1)),kI s.2.2.2.1,kI a3,kI a4,.d (.sl 5 (List.map Jf s.2.2.2.2.1)),.sl 1 (List.map dI s.2.2.2.2.2.1) 6,.os 5 11 0 s.2.2.2.2.2.2.2.2.2.2.length,.sl 1 (List.map dI s.2.2.2.2.2.2.1) 7,kI s.2.2.2.2.2.2.2.1],[],[.arr 14 (List.map Jk s.2.2.2.2.2.2.2.2.1)],[.arr 11 (List.map Ja s.2.2.2.2.2.2.2.2.2.1)],[.arr 11 (List.map Ja s.2.2.2.2.2.2.2.2.2.2)]]) [3,3] H (xK ⟨[1,2,0,0,5],[3,6]⟩) ?_
  rintro n1 ⟨x1,x2,x3,x4,x5,x6,x7,x8,x9,x10,x11⟩ o1 H hF1
  rw[JP]at H
  refine xS ?_
  refine xr ?_
  rcases xB Y G H with⟨p,H,F,G,q⟩|⟨p,H,F,G,q⟩
  ·refine xT0 ?_
   refine VA ?_
   refine Jj ?_
   refine Jn (Kw x2 x3) (fun s=>[(0,.c (.pt 1 0)),(6,.c (.os 3 14 0 s.1)),(7,.c (.os 4 11 0 s.2.2.2.2.2.2.2.1.length)),(40,.c (.d (.sl 1 (List.map (dL 11 Ja) r3)))),(41,cI x2),(42,cI x3)]) (fun s=>[[.d (.sl 2 (List.map Jg a1)),kI s.2.1,kI a3,kI a4,.d (.sl 5 (List.map Jf s.2.2.1)),.sl 1 (List.map dI s.2.2.2.1) 6,.os 5 11 0 s.2.2.2.2.2.2.2.2.length,.sl 1 (List.map dI s.2.2.2.2.1) 7,kI s.2.2.2.2.2.1],[],[.arr 14 (List.map Jk s.2.2.2.2.2.2.1)],[.arr 11 (List.map Ja s.2.2.2.2.2.2.2.1)],[.arr 11 (List.map Ja s.2.2.2.2.2.2.2.2)]]) [3,3] o1 ?_ ?_
   ·refine xS ?_
    obtain⟨g,H⟩:=Jc H
    have F:=xZ Y (Jh (dL 11 Ja) r3 x3.toNat default default (by omega))
    refine xR0 ?_
    refine Jj ?_
    refine Kf ?_
    refine Jn (VO q2 a1 a3 a4 x2 x3 x4 x5 x6 x7 x8 x9 x10 x11) (fun s=>[(0,.c (.pt 1 0)),(6,.c (.os 3 14 0 s.1)),(7,.c (.os 4 11 0 x10.length)),(9,.c (.d (.sl 11 (List.map Ja s.2.1)))),(40,.c (.d (.sl 1 (List.map (dL 11 Ja) r3)))),(41,cI x2),(42,cI x3),(57,cB s.2.2)]) (fun s=>[[.d (.sl 2 (List.map Jg a1)),kI x4,kI a3,kI a4,.d (.sl 5 (List.map Jf x5)),.sl 1 (List.map dI x6) 6,.os 5 11 0 x11.length,.sl 1 (List.map dI x7) 7,kI x8],[],[.arr 14 (List.map Jk x9)],[.arr 11 (List.map Ja x10)],[.arr 11 (List.map Ja x11)]]) [3,3] o1 ?_ ?_
    ·obtain⟨g,H⟩:=Jc H
     have F:=xZ Y (Jh Ja (r3.getD x3.toNat default) 0 default default (by omega))
     rcases xB F G H with⟨p,H,F,G,q⟩|⟨p,H,F,G,q⟩
     ·refine xR ?_
      exact Jb H (xK ⟨[1,2,3,4,5],[6,7]⟩)
     obtain⟨g,H⟩:=Jc H
     have F:=xZ F (Jh Ja (r3.getD x3.toNat default) 0 default default (by omega))
     refine xR ?_
     exact Jb H (xK ⟨[1,2,3,4,5],[6,7]⟩)
    rintro ⟨x21,x22,x23⟩ H
    rw[VO]at H
    rcases xB Y G H with⟨p,H,F,G,q⟩|⟨p,H,F,G,q⟩
    ·refine xT0 ?_
     refine Jn (VP x2 x3 x4 x5 x6 x7 x8 x9 x11) (fun s=>[(0,.c (.pt 1 0)),(6,.c (.os 3 14 0 s.1)),(7,.c (.os 4 11 0 s.2.length)),(40,.c (.d (.sl 1 (List.map (dL 11 Ja) r3)))),(41,cI x2),(42,cI x3)]) (fun s=>[[.d (.sl 2 (List.map Jg a1)),kI x4,kI a3,kI a4,.d (.sl 5 (List.map Jf x5)),.sl 1 (List.map dI x6) 6,.os 5 11 0 x11.length,.sl 1 (List.map dI x7) 7,kI x8],[],[.arr 14 (List.map Jk x9)],[.arr 11 (List.map Ja s.2)],[.arr 11 (List.map Ja x11)]]) [3,3] o1 ?_ ?_
     ·refine xS ?_
      obtain⟨r4,hr5,H⟩:=Ji H
      have F:=Y
      refine xQ ?_
      refine xs 1 ?_
      refine xc ⟨[3],[]⟩ (tabG 1 (cg2 hr5)) ?_
      refine xl ?_
      refine xS ?_
      rcases xB Y G H with⟨p,H,F,G,q⟩|⟨p,H,F,G,q⟩
      ·refine xT ?_
       obtain⟨g,H⟩:=Jc H
       have F:=xZ Y (JH KL x22)
       have A:=JH KL x22
       refine xR ?_
       exact Jb H (xK ⟨[1,2,3,9,5],[6,7]⟩)
      refine xE ?_
      exact Jb H (xK ⟨[1,2,3,4,5],[6,7]⟩)
     rintro ⟨x24,x25⟩ H
     rw[VP]at H
     refine xS ?_
     exact Jb H (xK ⟨[1,2,3,4,5],[6,7]⟩)
    refine xE ?_
    refine xfz 4 11 (List.map Ja x10) [] ?_
    rcases Z3 H with⟨r5,hr6,H⟩|⟨e2,hr7,H⟩
    ·have F:=Y
     refine xQ ?_
     refine xs 2 ?_
     refine xc ⟨[1,5],[6,7]⟩ (tabG 2 (cg10 hr6)) ?_
     refine xl ?_
     refine xS ?_
     refine xr ?_
     refine xr ?_
     rcases xB Y G H with⟨p,H,F,G,q⟩|⟨p,H,F,G,q⟩
     ·refine xT ?_
      exact Jb H (xK ⟨[1,2,3,0,10],[11,12]⟩)
     refine xE ?_
     rcases Z3 H with⟨r6,hr8,H⟩|⟨e3,hr9,H⟩
     ·have F:=Y
      refine xQ ?_
      refine xs 3 ?_
      refine xc ⟨[1,3,10],[11,12]⟩ (tabG 3 (cg12 hr8)) ?_
      refine xs 5 ?_
      refine xl ?_
      refine xS ?_
      refine xr0 ?_
      refine Jj ?_
      refine Jn (K9 q2 a1 a3 a4 x2 x3 x5 x6 x7 x8 x22 r5 r6) (fun s=>[(0,.c (.pt 1 0)),(6,.c (.os 3 14 0 s.1)),(7,.c (.sl 11 [] 0)),(9,.c (.d (.sl 11 (List.map Ja x22)))),(40,.c (.d (.sl 1 (List.map (dL 11 Ja) r3)))),(41,cI x2),(42,cI x3),(82,cB s.2)]) (fun s=>[[.d (.sl 2 (List.map Jg a1)),kI r6.2.2.1,kI a3,kI a4,.d (.sl 5 (List.map Jf x5)),.sl 1 (List.map dI x6) 5,.os 4 11 0 r5.2.length,.sl 1 (List.map dI x7) 6,kI x8],[],[.arr 14 (List.map Jk r6.2.2.2)],[.arr 11 (List.map Ja r5.2)]]) [3,3] o1 ?_ ?_
      ·rcases xB Y G H with⟨p,H,F,G,q⟩|⟨p,H,F,G,q⟩
       ·obtain⟨r8,hr12,H⟩:=Ji H
        have F:=F
        refine xQ ?_
        refine xs 4 ?_
        refine xc ⟨[16],[]⟩ (tabG 1 (cg2 hr12)) ?_
        refine xs 1 ?_
        refine xl ?_
        refine xS ?_
        exact Jb H (xK ⟨[1,2,16,17],[18,19]⟩)
       refine xR ?_
       exact Jb H (xK ⟨[1,2,16,17],[18,19]⟩)
      rintro ⟨x26,x27⟩ H
      rw[K9]at H
      rcases xB Y G H with⟨p,H,F,G,q⟩|⟨p,H,F,G,q⟩
      ·refine xT ?_
       rcases Z3 H with⟨r7,hr10,H⟩|⟨e4,hr11,H⟩
       ·have F:=Y
        refine xQ ?_
        refine xs 2 ?_
        refine xc ⟨[1,4],[5,6]⟩ (tabG 4 (cg10 hr10)) ?_
        refine xl ?_
        refine xS ?_
        exact Jb H (xK ⟨[1,2,3,0,9],[10,11]⟩)
       have F:=Y
       refine xQp [83,84,85] ?_
       refine xs 2 ?_
       refine xp ⟨[1,4],[5,6]⟩ (tabG 4 (cg10 hr11)) ?_
       replace H:=Jq H hF1
       replace H:=oI H
       refine xS ?_
       subst H
       refine xpD [] ?_
       exact xOv ⟨[1,2,9],[10,11]⟩
      refine xE ?_
      exact Jb H (xK ⟨[1,2,3,0,4],[5,6]⟩)
     have F:=Y
     refine xQp [70,71,72,73,69,74,75,10,11] ?_
     refine xs 3 ?_
     refine xp ⟨[1,3,10],[11,12]⟩ (tabG 3 (cg12 hr9)) ?_
     replace H:=Jq H hF1
     replace H:=oI H
     refine xS ?_
     subst H
     refine xpD [] ?_
     exact xOv ⟨[1,2,16],[17,18]⟩
    have F:=Y
    refine xQp [63,64,65] ?_
    refine xs 2 ?_
    refine xp ⟨[1,5],[6,7]⟩ (tabG 2 (cg10 hr7)) ?_
    replace H:=Jq H hF1
    replace H:=oI H
    refine xS ?_
    subst H
    refine xpD [] ?_
    exact xOv ⟨[1,2,10],[11,12]⟩
   rintro ⟨x12,x13,x14,x15,x16,x17,x18,x19,x20⟩ H
   rw[Kw]at H
   refine xr ?_
   exact Jw (JA H hF1) (xK ⟨[1,2,3,4,5],[6,7]⟩)
  replace H:=Jq H hF1
  refine xE ?_
  refine xfz 4 11 (List.map Ja x10) [] ?_
  rcases Z3 H with⟨r9,hr13,H⟩|⟨e5,hr14,H⟩
  ·have F:=Y
   refine xQ ?_
   refine xs 2 ?_
   refine xc ⟨[1,5],[6,7]⟩ (tabG 2 (cg10 hr13)) ?_
   refine xl ?_
   refine xS ?_
   refine xr ?_
   rcases xB Y G H with⟨p,H,F,G,q⟩|⟨p,H,F,G,q⟩
   ·refine xT ?_
    obtain⟨hg,H⟩:=Jc H
    have T:=JfG x9 x1 hg
    have Y:=xZ Y T
    refine xft 3 x1 ?_
    refine xfz 3 14 (List.map Jk (List.take x1 x9)) [] ?_
    obtain⟨g,H⟩:=Jc H
    have F:=xZ Y (Jh Jk (List.take x1 x9) ((IntKind.i64.wrap (((x1:Nat):Int)-1)).toNat) default default (by omega))
    cases H
   replace H:=oI H
   refine xE ?_
   subst H
   refine xnD [] ?_
   exact xO ⟨[1,2,10],[11,12]⟩
  have F:=Y
  refine xQp [87,88,89] ?_
  refine xs 2 ?_
  refine xp ⟨[1,5],[6,7]⟩ (tabG 2 (cg10 hr14)) ?_
  replace H:=oI H
  refine xS ?_
  subst H
  refine xpD [] ?_
  exact xOv ⟨[1,2,10],[11,12]⟩
 have F:=Y
 refine xQp [37,38] ?_
 refine xs 1 ?_
 refine xp ⟨[],[]⟩ (tabG 0 (cg1 hr3)) ?_
 replace H:=oI H
 refine xS ?_
 subst H
 refine xpD [] ?_
 exact xOv ⟨[1,2,5],[3,6]⟩
noncomputable def Jar(a0:List Token)(a2:Int)(a5:List Macro)(a6 a7:List Int)(a8:Int)(a9:List Token)(r1:Macro×Fault):(Int×Int)→Option Yc
 | (x1,x2)=>grB (Jdx (⟨r1.2.Err,x1,x2⟩:Fault)) (fun r2=>(JgC a5 r1.1).bind fun r3=>if(!eqI r3.2 0)=true then if 2<a0.length then none else none else some (.ok (a2,r3.1,a6,a7,a8,a9))) (fun e1=>some (.er ((⟨r1.2.Err,x1,x2⟩:Fault).Err,(⟨r1.2.Err,x1,x2⟩:Fault).File,(⟨r1.2.Err,x1,x2⟩:Fault).At,a2,a5,a6,a7,a8,a9)))
noncomputable def Jay(a0:List Token)(a2:Int)(a5:List Macro)(a6 a7:List Int)(a8:Int)(a9:List Token)(r1:Macro×Fault):Bool→Option Yc
 | x3=>if x3=true then if 1<a0.length then if 1<a0.length then Jar a0 a2 a5 a6 a7 a8 a9 r1 ((a0.getD 1 default).File,(a0.getD 1 default).At) else none else none else Jar a0 a2 a5 a6 a7 a8 a9 r1 (r1.2.File,r1.2.At)
noncomputable def Jaj(a0:List Token):Bool→Option Yc
 | x4=>if x4=true then if 1<a0.length then none else none else if 2<a0.length then(JdS ((a0.getD 2 default).Text)).bind fun r4=>if r4=true then if 2<a0.length then none else none else if 2<a0.length then none else none else none
noncomputable def JaB(a0:List Token)(a2:Int)(a5:List Macro)(a6 a7:List Int)(a8:Int)(a9:List Token):Bool→Option Yc
 | x5=>if x5=true then if 2<a0.length then if(a6.length + [(a0.getD 2 default).File].length) * 8≤140737488355328 then some (.ok (a2,a5,a6++[(a0.getD 2 default).File],a7,a8,a9)) else none else none else some (.ok (a2,a5,a6,a7,a8,a9))
noncomputable def VM(q1:Int→(List Source)→Int→Int→Int→(List Macro)→(List Int)→(List Int)→Int→(List Token)→Option Yc)(q2 q3:(List Token)→(List Source)→Int→Int→Int→(List Macro)→(List Int)→(List Int)→Int→(List Token)→Option Yc)(a0:List Token)(a1:List Source)(a2 a3 a4:Int)(a5:List Macro)(a6 a7:List Int)(a8:Int)(a9:List Token):Option Yc :=
 if 1<a0.length then if(eqS ((a0.getD 1 default).Text) [100,101,102,105,110,101])=true then if(0:Int)≤2∧2≤(a0.length:Int)∧(a0.length:Int)≤(a0.length:Int) then(Jhc (List.drop 2 a0)).bind fun r1=>if(ltI r1.2.File 0)=true then Jay a0 a2 a5 a6 a7 a8 a9 r1 (!eqI r1.2.Err 0) else Jay a0 a2 a5 a6 a7 a8 a9 r1 false else none else if(eqS ((a0.getD 1 default).Text) [117,110,100,101,102])=true then if(!eqI (a0.length:Int) 3)=true then Jaj a0 true else if 2<a0.length then Jaj a0 (!eqI ((a0.getD 2 default).Kind) 1) else none else if(eqS ((a0.getD 1 default).Text) [105,110,99,108,117,100,101])=true then grB (q3 a0 a1 a2 a3 a4 a5 a6 a7 a8 a9) (fun r5=>some (.ok (r5.1,r5.2.1,r5.2.2.1,r5.2.2.2.1,r5.2.2.2.2.1,r5.2.2.2.2.2))) (fun e2=>some (.er (e2.1,e2.2.1,e2.2.2.1,e2.2.2.2.1,e2.2.2.2.2.1,e2.2.2.2.2.2.1,e2.2.2.2.2.2.2.1,e2.2.2.2.2.2.2.2.1,e2.2.2.2.2.2.2.2.2))) else if(eqS ((a0.getD 1 default).Text) [101,114,114,111,114])=true then if 1<a0.length then none else none else if(eqS ((a0.getD 1 default).Text) [112,114,97,103,109,97])=true then if(eqI (a0.length:Int) 3)=true then if 2<a0.length then JaB a0 a2 a5 a6 a7 a8 a9 (eqS ((a0.getD 2 default).Text) [111,110,99,101]) else none else JaB a0 a2 a5 a6 a7 a8 a9 false else if 1<a0.length then none else none else none
theorem Ji9(q1:Int→(List Source)→Int→Int→Int→(List Macro)→(List Int)→(List Int)→Int→(List Token)→Option Yc)(q2 q3:(List Token)→(List Source)→Int→Int→Int→(List Macro)→(List Int)→(List Int)→Int→(List Token)→Option Yc)(kq1:Kok Tryz.prog 24 false (K7 q1))(kq2:Kok Tryz.prog 38 false (Vq q2))(kq3:Kok Tryz.prog 60 false (K5 q3)):∀ g,Vq (VM q1 q2 q3) g→Jm Tryz.prog 38 g:=by
 rintro _ ⟨a0,a1,a2,a3,a4,a5,a6,a7,a8,a9,r,H,rfl⟩
 refine xGnl mixed [5] [(56,Jg1),(57,JgF),(58,Jdl)] [(33,false,JbR),(60,false,(K5 q3))] [] ⟨⟨JCW,Jqe⟩,⟨JD0,Jn1⟩,⟨Jxk,Jil⟩,trivial⟩ ⟨JbE,kq3,trivial⟩ trivial Tryz.func38 _ ?_
 have G:=True.intro
 have Y:=xZ y_3 <| xZ y_9 <| xZ y_24 <| xZ y_25 <| xZ y_28 <| xZ y_29 <| xZ y_31 <| xZ y_44 <| xZ y_63 <| xZ y_65 <| xZ Tryz.results38 <| xZ Jg.eq_1 <| xZ Jl.eq_1 <| xZ Ja.eq_1 <| xZ Jf.eq_1 <| xZ Ku.eq_1 <| xZ JU.eq_1 <| xZ JbH.eq_1 <| xZ ZQ.eq_1 <| Jbi.eq_1
 dsimp only[Jbi]
 simp only[VM]at H
 refine xS ?_
 refine xrn 2 1 ?_
 obtain⟨g,H⟩:=Jc H
 have F:=xZ Y (Jh Ja a0 1 default default (by omega))
 refine xR ?_
 refine xr ?_
 rcases xB Y G H with⟨p,H,F,G,q⟩|⟨p,H,F,G,q⟩
 ·refine xT ?_
  obtain⟨g,H⟩:=Jc H
  obtain⟨r1,hr1,H⟩:=Ji H
  have F:=xC Y (Jua (List.drop 2 a0) r1 hr1)
  refine xR0 ?_
  refine Jj ?_
  refine Jn (Jar a0 a2 a5 a6 a7 a8 a9 r1) (fun s=>[(0,.c (.pt 1 0)),(1,.c (.d (.sl 11 (List.map Ja a0)))),(4,.c (.pt 3 0)),(5,.c (.pt 4 0))]) (fun s=>[[.d (.sl 2 (List.map Jg a1)),kI a2,kI a3,kI a4,.d (.sl 5 (List.map Jf a5)),.sl 1 (List.map dI a6) 6,.os 5 11 0 a9.length,.sl 1 (List.map dI a7) 7,kI a8],[],[kS r1.1.Name,kB r1.1.Call,.d (.sl 1 (List.map dS r1.1.Params)),kB r1.1.More,.d (.sl 11 (List.map Ja r1.1.Body))],[kI r1.2.Err,kI s.1,kI s.2],[.arr 11 (List.map Ja a9)]]) [3,3] r ?_ ?_
  ·refine Jn (Jay a0 a2 a5 a6 a7 a8 a9 r1) (fun s=>[(0,.c (.pt 1 0)),(1,.c (.d (.sl 11 (List.map Ja a0)))),(4,.c (.pt 3 0)),(5,.c (.pt 4 0)),(30,cB s)]) (fun s=>[[.d (.sl 2 (List.map Jg a1)),kI a2,kI a3,kI a4,.d (.sl 5 (List.map Jf a5)),.sl 1 (List.map dI a6) 6,.os 5 11 0 a9.length,.sl 1 (List.map dI a7) 7,kI a8],[],[kS r1.1.Name,kB r1.1.Call,.d (.sl 1 (List.map dS r1.1.Params)),kB r1.1.More,.d (.sl 11 (List.map Ja r1.1.Body))],[kI r1.2.Err,kI r1.2.File,kI r1.2.At],[.arr 11 (List.map Ja a9)]]) [3,3] r ?_ ?_
   ·rcases xB Y G H with⟨p,H,F,G,q⟩|⟨p,H,F,G,q⟩
    ·refine xR ?_
     exact Jb H (xK ⟨[1,2,6,7,5],[3,4]⟩)
    refine xR ?_
    exact Jb H (xK ⟨[1,2,6,7,5],[3,4]⟩)
   rintro x3 H
   rw[Jay]at H
   rcases xB Y G H with⟨p,H,F,G,q⟩|⟨p,H,F,G,q⟩
   ·refine xT ?_
    obtain⟨g,H⟩:=Jc H
    have F:=xZ Y (Jh Ja a0 1 default default (by omega))
    obtain⟨g,H⟩:=Jc H
    have F:=xZ F (Jh Ja a0 1 default default (by omega))
    refine xP [0,1,2,3,4,5,6,7,8,9,10,11] [38] ⟨JbE,kq3,trivial⟩ ?_
    refine xsX 7 ?_
    refine xaX ?_
    refine xsX 1 ?_
    refine xbX ?_
    refine xsX 1 ?_
    refine xbX ?_
    refine xlX ?_
    refine xS ?_
    exact Jb H (xK ⟨[1,2,3,4,5],[6,7]⟩)
   refine xE ?_
   exact Jb H (xK ⟨[1,2,3,4,5],[6,7]⟩)
  rintro ⟨x1,x2⟩ H
  rw[Jar]at H
  refine xS ?_
  rcases Z3 H with⟨r2,hr2,H⟩|⟨e1,hr3,H⟩
  ·have F:=Y
   refine xQ ?_
   refine xs 1 ?_
   refine xc ⟨[],[]⟩ (tabG 0 (cg1 hr2)) ?_
   refine xl ?_
   refine xS ?_
   obtain⟨r3,hr4,H⟩:=Ji H
   have F:=xC Y (Jqd a5 r1.1 r3 hr4)
   refine xR ?_
   refine xr ?_
   rcases xB Y G H with⟨p,H,F,G,q⟩|⟨p,H,F,G,q⟩
   ·refine xT ?_
    obtain⟨g,H⟩:=Jc H
    have F:=xZ Y (Jh Ja a0 2 default default (by omega))
    cases H
   refine xE ?_
   replace H:=oI H
   refine xr ?_
   subst H
   refine xnD [] ?_
   exact xO ⟨[1,2,5],[6,7]⟩
  have F:=Y
  refine xQp [41,42] ?_
  refine xs 1 ?_
  refine xp ⟨[],[]⟩ (tabG 0 (cg1 hr3)) ?_
  replace H:=oI H
  refine xS ?_
  subst H
  refine xpD [] ?_
  exact xOv ⟨[1,2,5],[6,7]⟩
 refine xE ?_
 refine xr ?_
 rcases xB Y G H with⟨p,H,F,G,q⟩|⟨p,H,F,G,q⟩
 ·refine xT0 ?_
  refine Kf ?_
  refine Jn (Jaj a0) (fun s=>[(0,.c (.pt 1 0)),(1,.c (.d (.sl 11 (List.map Ja a0)))),(73,cB s)]) (fun s=>[[.d (.sl 2 (List.map Jg a1)),kI a2,kI a3,kI a4,.d (.sl 5 (List.map Jf a5)),.sl 1 (List.map dI a6) 4,.os 3 11 0 a9.length,.sl 1 (List.map dI a7) 5,kI a8],[],[.arr 11 (List.map Ja a9)]]) [3,3] r ?_ ?_
  ·rcases xB Y G H with⟨p,H,F,G,q⟩|⟨p,H,F,G,q⟩
   ·refine xR ?_
    exact Jb H (xK ⟨[1,2,5],[3,4]⟩)
   obtain⟨g,H⟩:=Jc H
   have F:=xZ F (Jh Ja a0 2 default default (by omega))
   refine xR ?_
   exact Jb H (xK ⟨[1,2,5],[3,4]⟩)
  rintro x4 H
  rw[Jaj]at H
  rcases xB Y G H with⟨p,H,F,G,q⟩|⟨p,H,F,G,q⟩
  ·refine xT ?_
   obtain⟨g,H⟩:=Jc H
   have F:=xZ Y (Jh Ja a0 1 default default (by omega))
   cases H
  refine xE ?_
  obtain⟨g,H⟩:=Jc H
  have F:=xZ Y (Jh Ja a0 2 default default (by omega))
  obtain⟨r4,hr5,H⟩:=Ji H
  have F:=xCf F (JiU ((a0.getD 2 default).Text) r4 hr5)
  refine xR ?_
  rcases xB Y G H with⟨p,H,F,G,q⟩|⟨p,H,F,G,q⟩
  ·refine xT ?_
   obtain⟨g,H⟩:=Jc H
   have F:=xZ Y (Jh Ja a0 2 default default (by omega))
   cases H
  refine xE ?_
  obtain⟨g,H⟩:=Jc H
  have F:=xZ Y (Jh Ja a0 2 default default (by omega))
  cases H
 refine xE ?_
 refine xr ?_
 rcases xB Y G H with⟨p,H,F,G,q⟩|⟨p,H,F,G,q⟩
 ·refine xT ?_
  rcases Z3 H with⟨r5,hr6,H⟩|⟨e2,hr7,H⟩
  ·have F:=Y
   refine xQ ?_
   refine xs 2 ?_
   refine xc ⟨[1,5],[3,4]⟩ (tabG 1 (cg10 hr6)) ?_
   refine xl ?_
   replace H:=oI H
   refine xS ?_
   subst H
   refine xnD [] ?_
   exact xO ⟨[1,2,8],[9,10]⟩
  have F:=Y
  refine xQp [99,100,101] ?_
  refine xs 2 ?_
  refine xp ⟨[1,5],[3,4]⟩ (tabG 1 (cg10 hr7)) ?_
  replace H:=oI H
  refine xS ?_
  subst H
  refine xpD [] ?_
  exact xOv ⟨[1,2,8],[9,10]⟩
 refine xE ?_
 refine xr ?_
 rcases xB Y G H with⟨p,H,F,G,q⟩|⟨p,H,F,G,q⟩
 ·refine xT ?_
  obtain⟨g,H⟩:=Jc H
  have F:=xZ Y (Jh Ja a0 1 default default (by omega))
  cases H
 refine xE ?_
 refine xr ?_
 rcases xB Y G H with⟨p,H,F,G,q⟩|⟨p,H,F,G,q⟩
 ·refine xT0 ?_
  refine Jn (JaB a0 a2 a5 a6 a7 a8 a9) (fun s=>[(0,.c (.pt 1 0)),(1,.c (.d (.sl 11 (List.map Ja a0)))),(118,cB s)]) (fun s=>[[.d (.sl 2 (List.map Jg a1)),kI a2,kI a3,kI a4,.d (.sl 5 (List.map Jf a5)),.sl 1 (List.map dI a6) 4,.os 3 11 0 a9.length,.sl 1 (List.map dI a7) 5,kI a8],[],[.arr 11 (List.map Ja a9)]]) [3,3] r ?_ ?_
  ·rcases xB Y G H with⟨p,H,F,G,q⟩|⟨p,H,F,G,q⟩
   ·obtain⟨g,H⟩:=Jc H
    have F:=xZ F (Jh Ja a0 2 default default (by omega))
    refine xR ?_
    exact Jb H (xK ⟨[1,2,5],[3,4]⟩)
   refine xR ?_
   exact Jb H (xK ⟨[1,2,5],[3,4]⟩)
  rintro x5 H
  rw[JaB]at H
  rcases xB Y G H with⟨p,H,F,G,q⟩|⟨p,H,F,G,q⟩
  ·refine xT ?_
   obtain⟨g,H⟩:=Jc H
   have F:=xZ Y (Jh Ja a0 2 default default (by omega))
   obtain⟨g,H⟩:=Jc H
   have F:=xZ F (JH Jju [(a0.getD 2 default).File])
   replace H:=oI H
   refine xR ?_
   subst H
   refine xnD [] ?_
   exact xO ⟨[1,2,3],[6,5]⟩
  replace H:=oI H
  refine xE ?_
  subst H
  refine xnD [] ?_
  exact xO ⟨[1,2,3],[4,5]⟩
 refine xE ?_
 obtain⟨g,H⟩:=Jc H
 have F:=xZ Y (Jh Ja a0 1 default default (by omega))
 cases H
noncomputable def K6(q1:Int→(List Source)→Int→Int→Int→(List Macro)→(List Int)→(List Int)→Int→(List Token)→Option Yc)(a0:List Token)(a1:List Source)(a2 a3 a4:Int)(a5:List Macro)(a6 a7:List Int)(a8:Int)(a9:List Token):Bool→Option Yc
 | x1=>if x1=true then if 1<a0.length then(JeD 2 (a0.getD 1 default)).bind fun e1=>some (.er (2,(a0.getD 1 default).File,(a0.getD 1 default).At,a2,a5,a6,a7,a8,a9)) else none else if 2<a0.length then if 2<a0.length then if(0:Int)≤1∧1≤(IntKind.i64.wrap ((((a0.getD 2 default).Text).length:Int)-1))∧(IntKind.i64.wrap ((((a0.getD 2 default).Text).length:Int)-1))≤(((a0.getD 2 default).Text).length:Int) then if 2<a0.length then if 2<a0.length then(Xc a1 ((a0.getD 2 default).File) (List.take ((IntKind.i64.wrap ((((a0.getD 2 default).Text).length:Int)-1)).toNat-1) (List.drop 1 ((a0.getD 2 default).Text))) (eqI ((a0.getD 2 default).Kind) 4)).bind fun r2=>if(ltI r2 0)=true then if 2<a0.length then(JeD 6 (a0.getD 2 default)).bind fun e2=>some (.er (6,(a0.getD 2 default).File,(a0.getD 2 default).At,a2,a5,a6,a7,a8,a9)) else none else(KJ a6 r2).bind fun r4=>if r4=true then some (.ok (a2,a5,a6,a7,a8,a9)) else if(leI a4 a8)=true then if 2<a0.length then(JeD 10 (a0.getD 2 default)).bind fun e3=>some (.er (10,(a0.getD 2 default).File,(a0.getD 2 default).At,a2,a5,a6,a7,a8,a9)) else none else grB (q1 r2 a1 a2 a3 a4 a5 a6 a7 (IntKind.i64.wrap (a8+1)) a9) (fun r6=>some (.ok (r6.1,r6.2.1,r6.2.2.1,r6.2.2.2.1,IntKind.i64.wrap (r6.2.2.2.2.1-1),r6.2.2.2.2.2))) (fun e4=>some (.er (e4.1,e4.2.1,e4.2.2.1,e4.2.2.2.1,e4.2.2.2.2.1,e4.2.2.2.2.2.1,e4.2.2.2.2.2.2.1,e4.2.2.2.2.2.2.2.1,e4.2.2.2.2.2.2.2.2))) else none else none else none else none else none
noncomputable def Vi(q1:Int→(List Source)→Int→Int→Int→(List Macro)→(List Int)→(List Int)→Int→(List Token)→Option Yc)(q2 q3:(List Token)→(List Source)→Int→Int→Int→(List Macro)→(List Int)→(List Int)→Int→(List Token)→Option Yc)(a0:List Token)(a1:List Source)(a2 a3 a4:Int)(a5:List Macro)(a6 a7:List Int)(a8:Int)(a9:List Token):Option Yc :=
 if(!eqI (a0.length:Int) 3)=true then K6 q1 a0 a1 a2 a3 a4 a5 a6 a7 a8 a9 true else if 2<a0.length then if(!eqI ((a0.getD 2 default).Kind) 4)=true then if 2<a0.length then K6 q1 a0 a1 a2 a3 a4 a5 a6 a7 a8 a9 (!eqI ((a0.getD 2 default).Kind) 7) else none else K6 q1 a0 a1 a2 a3 a4 a5 a6 a7 a8 a9 false else none
theorem Jh9(q1:Int→(List Source)→Int→Int→Int→(List Macro)→(List Int)→(List Int)→Int→(List Token)→Option Yc)(q2 q3:(List Token)→(List Source)→Int→Int→Int→(List Macro)→(List Int)→(List Int)→Int→(List Token)→Option Yc)(kq1:Kok Tryz.prog 24 false (K7 q1))(kq2:Kok Tryz.prog 38 false (Vq q2))(kq3:Kok Tryz.prog 60 false (K5 q3)):∀ g,K5 (Vi q1 q2 q3) g→Jm Tryz.prog 60 g:=by
 rintro _ ⟨a0,a1,a2,a3,a4,a5,a6,a7,a8,a9,r,H,rfl⟩
 refine xGn mixed [(90,JfJ),(91,ZB)] [(39,false,Jek),(24,false,(K7 q1))] [] ⟨⟨JC0,JnB⟩,⟨JDF,JgW⟩,trivial⟩ ⟨Jf5,kq1,trivial⟩ trivial Tryz.func60 _ ?_
 have G:=True.intro
 have Y:=xZ y_3 <| xZ y_9 <| xZ y_24 <| xZ y_25 <| xZ y_37 <| xZ y_39 <| xZ y_44 <| xZ y_65 <| xZ Tryz.results60 <| xZ Jg.eq_1 <| xZ Jl.eq_1 <| xZ Ja.eq_1 <| xZ Jf.eq_1 <| xZ Ku.eq_1 <| xZ Jej.eq_1 <| xZ Zw.eq_1 <| ZQ.eq_1
 dsimp only[ZQ]
 simp only[Vi]at H
 refine Kf ?_
 refine Jn (K6 q1 a0 a1 a2 a3 a4 a5 a6 a7 a8 a9) (fun s=>[(0,.c (.pt 1 0)),(1,.c (.d (.sl 11 (List.map Ja a0)))),(22,cB s)]) (fun s=>[[.d (.sl 2 (List.map Jg a1)),kI a2,kI a3,kI a4,.d (.sl 5 (List.map Jf a5)),.sl 1 (List.map dI a6) 4,.os 3 11 0 a9.length,.sl 1 (List.map dI a7) 5,kI a8],[],[.arr 11 (List.map Ja a9)]]) [3,3] r ?_ ?_
 ·refine xrn 2 1 ?_
  rcases xB Y G H with⟨p,H,F,G,q⟩|⟨p,H,F,G,q⟩
  ·refine xR ?_
   exact Jb H (xK ⟨[1,2,5],[3,4]⟩)
  obtain⟨g,H⟩:=Jc H
  have F:=xZ F (Jh Ja a0 2 default default (by omega))
  rcases xB F G H with⟨p,H,F,G,q⟩|⟨p,H,F,G,q⟩
  ·obtain⟨g,H⟩:=Jc H
   have F:=xZ F (Jh Ja a0 2 default default (by omega))
   refine xR ?_
   exact Jb H (xK ⟨[1,2,5],[3,4]⟩)
  refine xR ?_
  exact Jb H (xK ⟨[1,2,5],[3,4]⟩)
 rintro x1 H
 rw[K6]at H
 rcases xB Y G H with⟨p,H,F,G,q⟩|⟨p,H,F,G,q⟩
 ·refine xT ?_
  obtain⟨g,H⟩:=Jc H
  have F:=xZ Y (Jh Ja a0 1 default default (by omega))
  obtain⟨e1,hr2,H⟩:=Ji H
  have F:=F
  refine xQp [23,24,25] ?_
  refine xs 2 ?_
  refine xp ⟨[],[]⟩ (tabG 0 (cg2 hr2)) ?_
  replace H:=oI H
  refine xS ?_
  subst H
  refine xpD [] ?_
  exact xOv ⟨[1,2,3],[4,5]⟩
 refine xE ?_
 obtain⟨g,H⟩:=Jc H
 have F:=xZ Y (Jh Ja a0 2 default default (by omega))
 obtain⟨g,H⟩:=Jc H
 have F:=xZ F (Jh Ja a0 2 default default (by omega))
 obtain⟨g,H⟩:=Jc H
 refine xR ?_
 obtain⟨g,H⟩:=Jc H
 have F:=xZ Y (Jh Ja a0 2 default default (by omega))
 obtain⟨g,H⟩:=Jc H
 have F:=xZ F (Jh Ja a0 2 default default (by omega))
 obtain⟨r2,hr3,H⟩:=Ji H
 have F:=xCf F (JoE a1 ((a0.getD 2 default).File) (List.take ((IntKind.i64.wrap ((((a0.getD 2 default).Text).length:Int)-1)).toNat-1) (List.drop 1 ((a0.getD 2 default).Text))) (eqI ((a0.getD 2 default).Kind) 4) r2 hr3)
 refine xR ?_
 refine xr ?_
 rcases xB Y G H with⟨p,H,F,G,q⟩|⟨p,H,F,G,q⟩
 ·refine xT ?_
  obtain⟨g,H⟩:=Jc H
  have F:=xZ Y (Jh Ja a0 2 default default (by omega))
  obtain⟨e2,hr5,H⟩:=Ji H
  have F:=F
  refine xQp [55,56,57] ?_
  refine xs 2 ?_
  refine xp ⟨[],[]⟩ (tabG 0 (cg2 hr5)) ?_
  replace H:=oI H
  refine xS ?_
  subst H
  refine xpD [] ?_
  exact xOv ⟨[1,2,3],[4,5]⟩
 refine xE ?_
 obtain⟨r4,hr6,H⟩:=Ji H
 have F:=xC Y (Jhm a6 r2 r4 hr6)
 refine xR ?_
 rcases xB Y G H with⟨p,H,F,G,q⟩|⟨p,H,F,G,q⟩
 ·replace H:=oI H
  refine xT ?_
  subst H
  refine xrD [] ?_
  exact xO ⟨[1,2,3],[4,5]⟩
 refine xE ?_
 refine xr ?_
 rcases xB Y G H with⟨p,H,F,G,q⟩|⟨p,H,F,G,q⟩
 ·refine xT ?_
  obtain⟨g,H⟩:=Jc H
  have F:=xZ Y (Jh Ja a0 2 default default (by omega))
  obtain⟨e3,hr8,H⟩:=Ji H
  have F:=F
  refine xQp [76,77,78] ?_
  refine xs 2 ?_
  refine xp ⟨[],[]⟩ (tabG 0 (cg2 hr8)) ?_
  replace H:=oI H
  refine xS ?_
  subst H
  refine xpD [] ?_
  exact xOv ⟨[1,2,3],[4,5]⟩
 refine xE ?_
 refine xr ?_
 rcases Z3 H with⟨r6,hr9,H⟩|⟨e4,hr10,H⟩
 ·have F:=Y
  refine xQ ?_
  refine xs 2 ?_
  refine xc ⟨[1,3],[4,5]⟩ (tabG 1 (cg10 hr9)) ?_
  refine xl ?_
  refine xS ?_
  replace H:=oI H
  refine xr ?_
  subst H
  refine xnD [] ?_
  exact xO ⟨[1,2,8],[9,10]⟩
 have F:=Y
 refine xQp [86,87,88] ?_
 refine xs 2 ?_
 refine xp ⟨[1,3],[4,5]⟩ (tabG 1 (cg10 hr10)) ?_
 replace H:=oI H
 refine xS ?_
 subst H
 refine xpD [] ?_
 exact xOv ⟨[1,2,8],[9,10]⟩
noncomputable def Jo:Nat→(Int→(List Source)→Int→Int→Int→(List Macro)→(List Int)→(List Int)→Int→(List Token)→Option Yc)×Yb×Yb
 | 0=>(fun _ _ _ _ _ _ _ _ _ _=>none,fun _ _ _ _ _ _ _ _ _ _=>none,fun _ _ _ _ _ _ _ _ _ _=>none)
 | n+1=>(Vl ((Jo n).1) ((Jo n).2.1) ((Jo n).2.2),VM ((Jo n).1) ((Jo n).2.1) ((Jo n).2.2),Vi ((Jo n).1) ((Jo n).2.1) ((Jo n).2.2))
theorem JeZ:∀ n,Kok Tryz.prog 24 false (K7 (Jo n).1)∧Kok Tryz.prog 38 false (Vq (Jo n).2.1)∧Kok Tryz.prog 60 false (K5 (Jo n).2.2)
 | 0=>⟨⟨Jya,(by rintro _ ⟨_,_,_,_,_,_,_,_,_,_,_,H,_⟩; cases H),nofun⟩,⟨Jyl,(by rintro _ ⟨_,_,_,_,_,_,_,_,_,_,_,H,_⟩; cases H),nofun⟩,⟨Jyp,(by rintro _ ⟨_,_,_,_,_,_,_,_,_,_,_,H,_⟩; cases H),nofun⟩⟩
 | n+1=>have h:=JeZ n; ⟨⟨Jya,JjC _ _ _ h.1 h.2.1 h.2.2,nofun⟩,⟨Jyl,Ji9 _ _ _ h.1 h.2.1 h.2.2,nofun⟩,⟨Jyp,Jh9 _ _ _ h.1 h.2.1 h.2.2,nofun⟩⟩
noncomputable def Je9:Int→(List Source)→Int→Int→Int→(List Macro)→(List Int)→(List Int)→Int→(List Token)→Option Yc:=(Jo bigF).1
def JgK:GI→Prop:=K7 Je9
theorem JbX:Kok Tryz.prog 24 false JgK:=(JeZ bigF).1
noncomputable def Jha(a0 a1 a2:Int):Option Unit :=
 some ()
def Jc6(a0 a1 a2:Int)(r:Unit):DI :=
 ⟨[.c (.pt 1 0)],[[kI a0,kI a1,kI a2]],[],none,[[kI a0,kI a1,kI a2]],[],none⟩
def JgT:DI→Prop:=fun d=>∃ (a0 a1 a2:Int) (r:Unit),Jha a0 a1 a2=some r∧d=Jc6 a0 a1 a2 r
theorem Jqx(a0 a1 a2:Int)(r:Unit)(H:Jha a0 a1 a2=some r):JgT (Jc6 a0 a1 a2 r):=⟨a0,a1,a2,r,H,rfl⟩
theorem Jpx:∀ d,JgT d→DOk Tryz.prog 23 d:=by
 rintro _ ⟨a0,a1,a2,r,H,rfl⟩
 refine xRcl mixed [] [] [] trivial trivial Tryz.func23 _ ?_
 have G:=True.intro
 have Y:=xZ y_20 <| xZ y_31 <| xZ y_78 <| xZ Tryz.results23 <| xZ JU.eq_1 <| Jc6.eq_1
 dsimp only[Jc6,Option.getD_some,Option.getD_none]
 unfold Jha at H
 refine xS ?_
 refine xr ?_
 refine xt ?_
 replace H:=oI H
 refine xr ?_
 subst H
 exact xDn ⟨[1],[]⟩
noncomputable def Jhg(a0 a1 a2:Int)(a3:List Token)(a4:List Int)(a5:List Macro):Option Yv :=
 if(!eqI a0 0)=true then some (([]:List Token),([]:List Int),([]:List Macro)) else some (a3,a4,a5)
def Jda(a0 a1 a2:Int)(a3:List Token)(a4:List Int)(a5:List Macro)(r:Yv)(u:Option Value):DI :=
 ⟨[.c (.pt 1 0),.c (.pt 2 0),.c (.pt 3 0)],[[kI a0,kI a1,kI a2],[.d (.sl 11 (List.map Ja a3)),.sl 1 (List.map dI a4) 4],[.d (.sl 5 (List.map Jf a5))]],[3],u,[[kI a0,kI a1,kI a2],[.d (.sl 11 (List.map Ja r.1)),.sl 1 (List.map dI r.2.1) 4],[.d (.sl 5 (List.map Jf r.2.2))]],[3],u⟩
def Jg0:DI→Prop:=fun d=>∃ (a0 a1 a2:Int) (a3:List Token) (a4:List Int) (a5:List Macro) (r:Yv) (u:Option Value),Jhg a0 a1 a2 a3 a4 a5=some r∧d=Jda a0 a1 a2 a3 a4 a5 r u
theorem Jqs(a0 a1 a2:Int)(a3:List Token)(a4:List Int)(a5:List Macro)(r:Yv)(u:Option Value)(H:Jhg a0 a1 a2 a3 a4 a5=some r):Jg0 (Jda a0 a1 a2 a3 a4 a5 r u):=⟨a0,a1,a2,a3,a4,a5,r,u,H,rfl⟩
theorem Jpn:∀ d,Jg0 d→DOk Tryz.prog 22 d:=by
 rintro _ ⟨a0,a1,a2,a3,a4,a5,r,u,H,rfl⟩
 refine xDf mixed [] [] trivial trivial Tryz.func22 _ ?_
 have G:=True.intro
 have Y:=xZ y_24 <| xZ y_25 <| xZ y_27 <| xZ y_28 <| xZ y_29 <| xZ y_31 <| xZ Tryz.results22 <| xZ Jl.eq_1 <| xZ Ja.eq_1 <| xZ Jf.eq_1 <| Jda.eq_1
 dsimp only[Jda]
 simp only[Jhg]at H
 refine xS ?_
 refine xr ?_
 rcases xB Y G H with⟨p,H,F,G,q⟩|⟨p,H,F,G,q⟩
 ·refine xT ?_
  replace H:=oI H
  refine xr ?_
  subst H
  exact xDn ⟨[1,2,3],[0]⟩
 replace H:=oI H
 refine xE ?_
 subst H
 exact xDn ⟨[1,2,3],[4]⟩
noncomputable def Jc8(a0 a1 a2 a3 a4 a5:Int):Option Unit :=
 some ()
def JaU(a0 a1 a2 a3 a4 a5:Int)(r:Unit):DI :=
 ⟨[.c (.pt 1 0)],[[kI a0,kI a1,kI a2]],[],(some (.iface 78 (.agg ⟨[.int .i64 a3,.int .i64 a4,.int .i64 a5]⟩))),[[kI a3,kI a4,kI a5]],[],none⟩
def Je5:DI→Prop:=fun d=>∃ (a0 a1 a2 a3 a4 a5:Int) (r:Unit),Jc8 a0 a1 a2 a3 a4 a5=some r∧d=JaU a0 a1 a2 a3 a4 a5 r
theorem Jng(a0 a1 a2 a3 a4 a5:Int)(r:Unit)(H:Jc8 a0 a1 a2 a3 a4 a5=some r):Je5 (JaU a0 a1 a2 a3 a4 a5 r):=⟨a0,a1,a2,a3,a4,a5,r,H,rfl⟩
theorem Jmk:∀ d,Je5 d→DOk Tryz.prog 23 d:=by
 rintro _ ⟨a0,a1,a2,a3,a4,a5,r,H,rfl⟩
 refine xRcl mixed [] [] [] trivial trivial Tryz.func23 _ ?_
 have G:=True.intro
 have Y:=xZ y_20 <| xZ y_31 <| xZ y_78 <| xZ Tryz.results23 <| xZ JU.eq_1 <| JaU.eq_1
 dsimp only[JaU,Option.getD_some,Option.getD_none]
 unfold Jc8 at H
 refine xS ?_
 refine xr ?_
 refine xe ?_
 refine xr ?_
 refine xt ?_
 refine xr ?_
 replace H:=oI H
 refine xr ?_
 subst H
 exact xDn ⟨[1],[]⟩
noncomputable def Jc9(a0 a1 a2:Int)(a3:List Token)(a4:List Int)(a5:List Macro):Option Yv :=
 if(!eqI a0 0)=true then some (([]:List Token),([]:List Int),([]:List Macro)) else some (a3,a4,a5)
def Ja0(a0 a1 a2:Int)(a3:List Token)(a4:List Int)(a5:List Macro)(r:Yv)(u:Option Value):DI :=
 ⟨[.c (.pt 1 0),.c (.pt 2 0),.c (.pt 3 0)],[[kI a0,kI a1,kI a2],[.sl 11 (List.map Ja a3) 4,.sl 1 (List.map dI a4) 5],[.sl 5 (List.map Jf a5) 6]],[44,3,63],u,[[kI a0,kI a1,kI a2],[.sl 11 (List.map Ja r.1) 4,.sl 1 (List.map dI r.2.1) 5],[.sl 5 (List.map Jf r.2.2) 6]],[44,3,63],u⟩
def Je8:DI→Prop:=fun d=>∃ (a0 a1 a2:Int) (a3:List Token) (a4:List Int) (a5:List Macro) (r:Yv) (u:Option Value),Jc9 a0 a1 a2 a3 a4 a5=some r∧d=Ja0 a0 a1 a2 a3 a4 a5 r u
theorem Jm8(a0 a1 a2:Int)(a3:List Token)(a4:List Int)(a5:List Macro)(r:Yv)(u:Option Value)(H:Jc9 a0 a1 a2 a3 a4 a5=some r):Je8 (Ja0 a0 a1 a2 a3 a4 a5 r u):=⟨a0,a1,a2,a3,a4,a5,r,u,H,rfl⟩
theorem Jmg:∀ d,Je8 d→DOk Tryz.prog 22 d:=by
 rintro _ ⟨a0,a1,a2,a3,a4,a5,r,u,H,rfl⟩
 refine xDf mixed [] [] trivial trivial Tryz.func22 _ ?_
 have G:=True.intro
 have Y:=xZ y_24 <| xZ y_25 <| xZ y_27 <| xZ y_28 <| xZ y_29 <| xZ y_31 <| xZ Tryz.results22 <| xZ Jl.eq_1 <| xZ Ja.eq_1 <| xZ Jf.eq_1 <| Ja0.eq_1
 dsimp only[Ja0]
 simp only[Jc9]at H
 refine xS ?_
 refine xr ?_
 rcases xB Y G H with⟨p,H,F,G,q⟩|⟨p,H,F,G,q⟩
 ·refine xT ?_
  replace H:=oI H
  refine xr ?_
  subst H
  exact xDn ⟨[1,2,3],[0,0,0]⟩
 replace H:=oI H
 refine xE ?_
 subst H
 exact xDn ⟨[1,2,3],[4,5,6]⟩
noncomputable def X0(a0:List Source)(a1:Int)(a2:List Macro)(a3:Limits):Bool→Option Yp
 | x2=>if x2=true then some (([]:List Token),([]:List Int),([]:List Macro),3,(-1),0) else(J6 a2).bind fun r2=>grB (Je9 a1 a0 a3.Fuel a3.Out a3.Deep a2 ([]:List Int) ([]:List Int) 0 []) (fun r3=>(Jha 0 (-1) 0).bind fun r4=>(Jhg 0 (-1) 0 r3.2.2.2.2.2 r3.2.2.2.1 r3.2.1).bind fun r5=>some (r5.1,r5.2.1,r5.2.2,0,(-1),0)) (fun e1=>(Jc8 0 0 0 e1.1 e1.2.1 e1.2.2.1).bind fun r6=>(Jc9 e1.1 e1.2.1 e1.2.2.1 ([]:List Token) ([]:List Int) ([]:List Macro)).bind fun r7=>some (r7.1,r7.2.1,r7.2.2,e1.1,e1.2.1,e1.2.2.1))
noncomputable def Jeq(a0:List Source)(a1:Int)(a2:List Macro)(a3:Limits):Bool→Option Yp
 | x1=>if x1=true then some (([]:List Token),([]:List Int),([]:List Macro),6,(-1),0) else if(ltI a3.Fuel 0)=true then X0 a0 a1 a2 a3 true else if(ltI 4000 a3.Fuel)=true then X0 a0 a1 a2 a3 true else if(ltI a3.Out 0)=true then X0 a0 a1 a2 a3 true else if(ltI 1500 a3.Out)=true then X0 a0 a1 a2 a3 true else if(ltI a3.Deep 0)=true then X0 a0 a1 a2 a3 true else X0 a0 a1 a2 a3 (ltI 6 a3.Deep)
noncomputable def Jdk(a0:List Source)(a1:Int)(a2:List Macro)(a3:Limits):Option Yp :=
 (Jbo a0).bind fun r1=>if(!eqI r1.Err 0)=true then some (([]:List Token),([]:List Int),([]:List Macro),r1.Err,r1.File,r1.At) else if(ltI a1 0)=true then Jeq a0 a1 a2 a3 true else Jeq a0 a1 a2 a3 (leI (a0.length:Int) a1)
def Jff(a0:List Source)(a1:Int)(a2:List Macro)(a3:Limits)(r:Yp):GI :=
 ⟨[.c (.d (.sl 2 (List.map Jg a0))),cI a1,.c (.d (.sl 5 (List.map Jf a2))),.ag [kI a3.Fuel,kI a3.Out,kI a3.Deep]],[],[],.ret (.tu [(true,[.d (.sl 11 (List.map Ja r.1)),.sl 1 (List.map dI r.2.1) 1]),(false,[.d (.sl 5 (List.map Jf r.2.2.1))]),(true,[kI r.2.2.2.1,kI r.2.2.2.2.1,kI r.2.2.2.2.2])]) [] [3]⟩
def Jfc:GI→Prop:=Sg4 Jdk Jff
theorem Jvm:∀ g,Jfc g→Jm Tryz.prog 11 g:=by
 rintro _ ⟨a0,a1,a2,a3,r,H,rfl⟩
 refine xGnl mixed [3,8,12] [(20,JgY)] [(21,true,JZ),(24,false,JgK)] [(23,JgT),(22,Jg0),(23,Je5),(22,Je8)] ⟨⟨JDw,Jqh⟩,trivial⟩ ⟨JL,JbX,trivial⟩ ⟨⟨JxO,Jpx⟩,⟨JxH,Jpn⟩,⟨JxO,Jmk⟩,⟨JxH,Jmg⟩,trivial⟩ Tryz.func11 _ ?_
 have G:=True.intro
 have Y:=xZ y_3 <| xZ y_24 <| xZ y_25 <| xZ y_27 <| xZ y_28 <| xZ y_29 <| xZ y_31 <| xZ y_35 <| xZ y_37 <| xZ y_39 <| xZ y_65 <| xZ Tryz.results11 <| xZ Jg.eq_1 <| xZ Jl.eq_1 <| xZ Ja.eq_1 <| xZ Jf.eq_1 <| xZ Ku.eq_1 <| xZ JU.eq_1 <| xZ Vz.eq_1 <| xZ Zw.eq_1 <| xZ Jc6.eq_1 <| xZ Jda.eq_1 <| xZ JaU.eq_1 <| xZ Ja0.eq_1 <| Jff.eq_1
 dsimp only[Jff]
 simp only[Jdk]at H
 refine xS ?_
 refine xr ?_
 obtain⟨r1,hr1,H⟩:=Ji H
 have F:=xC Y (Jue a0 r1 hr1)
 refine xR ?_
 refine xr ?_
 rcases xB Y G H with⟨p,H,F,G,q⟩|⟨p,H,F,G,q⟩
 ·refine xT ?_
  have F:=Y
  refine xP [0,1,2,3,4] [19] ⟨JL,JbX,trivial⟩ ?_
  refine xsX 1 ?_
  refine xaX ?_
  refine xbX ?_
  refine xbX ?_
  refine xbX ?_
  refine xlX ?_
  replace H:=oI H
  refine xS ?_
  subst H
  refine xrD [] ?_
  exact xO ⟨[],[0]⟩
 refine xE0 ?_
 refine VA ?_
 refine Jj ?_
 refine Kf ?_
 refine Jag ?_
 refine Jn (Jeq a0 a1 a2 a3) (fun s=>[(0,.c (.d (.sl 2 (List.map Jg a0)))),(1,cI a1),(2,.c (.d (.sl 5 (List.map Jf a2)))),(7,.c (.pt 1 0)),(8,.c (.pt 2 0)),(9,.c (.pt 3 0)),(10,.c (.pt 4 0)),(20,cB s)]) (fun s=>[[kI a3.Fuel,kI a3.Out,kI a3.Deep],[.sl 11 [] 0,.sl 1 [] 0],[.sl 5 [] 0],[kI 0,kI 0,kI 0]]) [] r ?_ ?_
 ·rcases xB Y G H with⟨p,H,F,G,q⟩|⟨p,H,F,G,q⟩
  ·refine xR ?_
   exact Jb H (xK ⟨[1,2,3,4],[]⟩)
  refine xR ?_
  exact Jb H (xK ⟨[1,2,3,4],[]⟩)
 rintro x1 H
 rw[Jeq]at H
 rcases xB Y G H with⟨p,H,F,G,q⟩|⟨p,H,F,G,q⟩
 ·refine xT ?_
  replace H:=oI H
  refine xr ?_
  subst H
  refine xrD [] ?_
  exact xO ⟨[],[0]⟩
 refine xE0 ?_
 refine Jn (X0 a0 a1 a2 a3) (fun s=>[(0,.c (.d (.sl 2 (List.map Jg a0)))),(1,cI a1),(2,.c (.d (.sl 5 (List.map Jf a2)))),(7,.c (.pt 1 0)),(8,.c (.pt 2 0)),(9,.c (.pt 3 0)),(10,.c (.pt 4 0)),(31,cB s)]) (fun s=>[[kI a3.Fuel,kI a3.Out,kI a3.Deep],[.sl 11 [] 0,.sl 1 [] 0],[.sl 5 [] 0],[kI 0,kI 0,kI 0]]) [] r ?_ ?_
 ·rcases xB Y G H with⟨p,H,F,G,q⟩|⟨p,H,F,G,q⟩
  ·refine xR ?_
   exact Jb H (xK ⟨[1,2,3,4],[]⟩)
  rcases xB F G H with⟨p,H,F,G,q⟩|⟨p,H,F,G,q⟩
  ·refine xR ?_
   exact Jb H (xK ⟨[1,2,3,4],[]⟩)
  rcases xB F G H with⟨p,H,F,G,q⟩|⟨p,H,F,G,q⟩
  ·refine xR ?_
   exact Jb H (xK ⟨[1,2,3,4],[]⟩)
  rcases xB F G H with⟨p,H,F,G,q⟩|⟨p,H,F,G,q⟩
  ·refine xR ?_
   exact Jb H (xK ⟨[1,2,3,4],[]⟩)
  rcases xB F G H with⟨p,H,F,G,q⟩|⟨p,H,F,G,q⟩
  ·refine xR ?_
   exact Jb H (xK ⟨[1,2,3,4],[]⟩)
  refine xR ?_
  exact Jb H (xK ⟨[1,2,3,4],[]⟩)
 rintro x2 H
 rw[X0]at H
 rcases xB Y G H with⟨p,H,F,G,q⟩|⟨p,H,F,G,q⟩
 ·refine xT ?_
  replace H:=oI H
  refine xr ?_
  subst H
  refine xrD [] ?_
  exact xO ⟨[],[0]⟩
 refine xE ?_
 obtain⟨r2,hr2,H⟩:=Ji H
 have F:=Y
 refine xP [0,1,2,3,4,5,6] [63] ⟨JL,JbX,trivial⟩ ?_
 refine xsX 1 ?_
 refine xaX ?_
 refine xsX 1 ?_
 refine xcX ⟨[],[]⟩ (tabG 0 (cg1 hr2)) ?_
 refine xsX 1 ?_
 refine xbX ?_
 refine xsX 1 ?_
 refine xlX ?_
 refine xS ?_
 refine xfz 5 5 (List.map Jf a2) [] ?_
 have F:=Y
 refine xQ ?_
 refine xs 1 ?_
 refine xw ?_
 refine xl ?_
 refine xS ?_
 have F:=Y
 refine xQ ?_
 refine xw ?_
 refine xl ?_
 refine xS ?_
 rcases Z3 H with⟨r3,hr3,H⟩|⟨e1,hr4,H⟩
 ·have F:=Y
  refine xQ ?_
  refine xs 2 ?_
  refine xc ⟨[6,0],[0,0]⟩ (tabG 1 (cg10 hr3)) ?_
  refine xl ?_
  refine xS ?_
  refine xfz 9 11 (List.map Ja r3.2.2.2.2.2) [] ?_
  have F:=Y
  refine xP [0,1,2,3,4,5,6,7,8,9,10,11] [79] ⟨JL,JbX,trivial⟩ ?_
  refine xsX 7 ?_
  refine xaX ?_
  refine xsX 1 ?_
  refine xbX ?_
  refine xbX ?_
  refine xbX ?_
  refine xlX ?_
  refine xS ?_
  refine xrD [(23,[.pt 4 0]),(22,[.pt 4 0,.pt 2 0,.pt 3 0])] ?_
  obtain⟨r4,hr5,H⟩:=Ji H
  refine xD ⟨[4],[]⟩ (tabD 0 (Jqx 0 (-1) 0 r4 hr5)) ?_
  obtain⟨r5,hr6,H⟩:=Ji H
  refine xD ⟨[4,2,3],[11]⟩ (tabD 1 (Jqs 0 (-1) 0 r3.2.2.2.2.2 r3.2.2.2.1 r3.2.1 r5 none hr6)) ?_
  replace H:=oI H
  subst H
  exact xO ⟨[],[16]⟩
 have F:=Y
 refine xQp [69,70,71] ?_
 refine xs 2 ?_
 refine xp ⟨[6,0],[0,0]⟩ (tabG 1 (cg10 hr4)) ?_
 refine xS ?_
 refine xpD [(23,[.pt 4 0]),(22,[.pt 4 0,.pt 2 0,.pt 3 0])] ?_
 obtain⟨r6,hr7,H⟩:=Ji H
 refine xD ⟨[4],[]⟩ (tabD 2 (Jng 0 0 0 e1.1 e1.2.1 e1.2.2.1 r6 hr7)) ?_
 obtain⟨r7,hr8,H⟩:=Ji H
 refine xD ⟨[4,2,3],[0,0,0]⟩ (tabD 3 (Jm8 e1.1 e1.2.1 e1.2.2.1 ([]:List Token) ([]:List Int) ([]:List Macro) r7 none hr8)) ?_
 replace H:=oI H
 subst H
 exact xO ⟨[],[17]⟩
theorem Jnj:Jd Tryz.prog 11∧(∀ g,Jfc g→Jm Tryz.prog 11 g)∧(true=true→∀ g,Jfc g→∃ val bs ts,g.out=.ret val bs ts) :=
 ⟨JDt,Jvm,fun _=>by rintro _ ⟨_,_,_,_,_,_,rfl⟩; exact⟨_,_,_,rfl⟩⟩
end Go.Proofs.YtfkhlbhjhdpkoaaGreatDoor
