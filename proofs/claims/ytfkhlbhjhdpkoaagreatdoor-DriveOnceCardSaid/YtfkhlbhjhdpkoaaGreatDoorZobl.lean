/- Functions of data for functions of the program. Written by dec3.py. -/
import Derived.Test.YtfkhlbhjhdpkoaaGreatDoorZoam
import Derived.Test.YtfkhlbhjhdpkoaaGreatDoorZoan
import Derived.Test.YtfkhlbhjhdpkoaaGreatDoorZobh
import Derived.Test.YtfkhlbhjhdpkoaaGreatDoorZobi
import Derived.Test.YtfkhlbhjhdpkoaaGreatDoorZobj
set_option linter.unusedVariables false
set_option linter.unusedSimpArgs false
set_option maxHeartbeats 4000000
set_option maxRecDepth 100000
namespace Go.Proofs.YtfkhlbhjhdpkoaaGreatDoor
open Go.RowKit
noncomputable def JdH(a0:Fault):Option (GR Unit Unit) :=
 if(!eqI a0.Err 0)=true then some (.er ()) else some (.ok ())
def Jv9(a0:Fault):GR Unit Unit→GOut
 | .ok r=>.ret (.tu []) [] []
 | .er r=>.pan (.iface 78 (.agg ⟨[.int .i64 a0.Err,.int .i64 a0.File,.int .i64 a0.At]⟩)) [] []
def JbQ(a0:Fault)(r:GR Unit Unit):GI :=
 ⟨[.ag [kI a0.Err,kI a0.File,kI a0.At]],[],[],Jv9 a0 r⟩
def JbZ:GI→Prop:=Sg1 JdH JbQ
theorem JuO:∀ g,JbZ g→Jn Tryz.prog 33 g:=by
 rintro _ ⟨a0,r,H,rfl⟩
 refine xGn mixed [] [] [] trivial trivial trivial Tryz.func33 _ ?_
 have G:=True.intro
 have Y:=xZ y_29 <| xZ y_31 <| xZ y_78 <| xZ Tryz.results33 <| xZ J3.eq_1 <| JbQ.eq_1
 dsimp only[JbQ]
 simp only[JdH]at H
 refine xS ?_
 refine xr ?_
 refine xr ?_
 rcases xB Y G H with⟨p,H,F,G,q⟩|⟨p,H,F,G,q⟩
 ·refine xT ?_
  have F:=Y
  refine xQp [5,6,7] ?_
  refine xs 3 ?_
  refine xv ?_
  replace H:=oI H
  refine xS ?_
  subst H
  refine xpD [] ?_
  exact xOv ⟨[],[]⟩
 replace H:=oI H
 refine xE ?_
 subst H
 refine xnD [] ?_
 exact xO ⟨[],[]⟩
theorem JbO:Jd Tryz.prog 33∧(∀ g,JbZ g→Jn Tryz.prog 33 g)∧(false=true→∀ g,JbZ g→∃ val bs ts,g.out=.ret val bs ts) :=
 ⟨JEI,JuO,nofun⟩
noncomputable def Jcc(a0:drive_group):Option Bool :=
 some (!a0.on_)
noncomputable def JfN:PF:=PF.of (E1 Jl) (fun a=>Jcc a) dB
theorem Joa:JC Tryz.prog 53 JfN:=by
 refine xF mixed [] [] trivial trivial Tryz.func53 ?_
 rintro a0 out H
 have G:=True.intro
 have Y:=xZ y_4 <| xZ y_90 <| xZ Tryz.results53 <| xZ Jm.eq_1 <| xZ Ja.eq_1 <| Jl.eq_1
 simp only[Jcc]at H
 refine xS ?_
 refine xr ?_
 replace H:=oI H
 refine xr ?_
 subst H
 exact xN
theorem JoD(a0:drive_group)(r:Bool)(H:Jcc a0=some r):PC JfN [Jl a0] (dB r):=PF.c (a:=a0) H
noncomputable def ZB(a0:List Token)(a1:List Source)(a2 a3 a4:Int)(a5:List Macro)(a6 a7:List Int)(a8:Int)(a9:List Token):Option (GR Yb1 YV) :=
 (Jgp a1 a5 a0 a2 a3).bind fun r1=>grB (JdH r1.2.2) (fun r2=>some (.ok (r1.1,r1.2.1))) (fun e1=>some (.er (r1.2.2.Err,r1.2.2.File,r1.2.2.At)))
def JjE(a0:List Token)(a1:List Source)(a2 a3 a4:Int)(a5:List Macro)(a6 a7:List Int)(a8:Int)(a9:List Token):GR Yb1 YV→GOut
 | .ok r=>.ret (.c (.d (.sl 11 (List.map Ja r.1)))) [[.d (.sl 2 (List.map Jg a1)),kI r.2,kI a3,kI a4,.d (.sl 5 (List.map Jf a5)),.sl 1 (List.map dI a6) 3,.os 2 11 0 a9.length,.sl 1 (List.map dI a7) 4,kI a8],[.arr 11 (List.map Ja a9)]] [3,3]
 | .er r=>.pan (.iface 78 (.agg ⟨[.int .i64 r.1,.int .i64 r.2.1,.int .i64 r.2.2]⟩)) [[.d (.sl 2 (List.map Jg a1)),kI a2,kI a3,kI a4,.d (.sl 5 (List.map Jf a5)),.sl 1 (List.map dI a6) 3,.os 2 11 0 a9.length,.sl 1 (List.map dI a7) 4,kI a8],[.arr 11 (List.map Ja a9)]] [3,3]
def XM(a0:List Token)(a1:List Source)(a2 a3 a4:Int)(a5:List Macro)(a6 a7:List Int)(a8:Int)(a9:List Token)(r:GR Yb1 YV):GI :=
 ⟨[.c (.pt 1 0),.c (.d (.sl 11 (List.map Ja a0)))],[[.d (.sl 2 (List.map Jg a1)),kI a2,kI a3,kI a4,.d (.sl 5 (List.map Jf a5)),.sl 1 (List.map dI a6) 3,.os 2 11 0 a9.length,.sl 1 (List.map dI a7) 4,kI a8],[.arr 11 (List.map Ja a9)]],[3,3],JjE a0 a1 a2 a3 a4 a5 a6 a7 a8 a9 r⟩
def XI:GI→Prop:=Sg10 ZB XM
theorem Jju:∀ g,XI g→Jn Tryz.prog 54 g:=by
 rintro _ ⟨a0,a1,a2,a3,a4,a5,a6,a7,a8,a9,r,H,rfl⟩
 refine xGn mixed [(78,JhE)] [(33,false,JbZ)] [] ⟨⟨JEq,JuH⟩,trivial⟩ ⟨JbO,trivial⟩ trivial Tryz.func54 _ ?_
 have G:=True.intro
 have Y:=xZ y_3 <| xZ y_28 <| xZ y_31 <| xZ y_37 <| xZ y_39 <| xZ y_65 <| xZ Tryz.results54 <| xZ Jg.eq_1 <| xZ Jm.eq_1 <| xZ Ja.eq_1 <| xZ Jf.eq_1 <| xZ KF.eq_1 <| xZ J3.eq_1 <| xZ JbQ.eq_1 <| XM.eq_1
 dsimp only[XM]
 simp only[ZB]at H
 refine xS ?_
 refine xr ?_
 obtain⟨r1,hr1,H⟩:=Jj H
 have F:=xC Y (Jw8 a1 a5 a0 a2 a3 r1 hr1)
 refine xR ?_
 rcases Jae H with⟨r2,hr2,H⟩|⟨e1,hr3,H⟩
 ·have F:=Y
  refine xQ ?_
  refine xs 1 ?_
  refine xc ⟨[],[]⟩ (tabG 0 (cg1 hr2)) ?_
  refine xl ?_
  refine xS ?_
  refine xr ?_
  replace H:=oI H
  refine xr ?_
  subst H
  refine xrD [] ?_
  exact xO ⟨[1,2],[3,4]⟩
 have F:=Y
 refine xQp [32,33] ?_
 refine xs 1 ?_
 refine xp ⟨[],[]⟩ (tabG 0 (cg1 hr3)) ?_
 replace H:=oI H
 refine xS ?_
 subst H
 refine xpD [] ?_
 exact xOv ⟨[1,2],[3,4]⟩
theorem Vw:Jd Tryz.prog 54∧(∀ g,XI g→Jn Tryz.prog 54 g)∧(false=true→∀ g,XI g→∃ val bs ts,g.out=.ret val bs ts) :=
 ⟨JEw,Jju,nofun⟩
noncomputable def Jfb(a0:Int)(a1:Token):Option Unit :=
 some ()
def JeA(a0:Int)(a1:Token)(r:Unit):GI :=
 ⟨[cI a0,.c (.pp (List.drop 0 (Ja a1).cells))],[],[],.pan (.iface 78 (.agg ⟨[.int .i64 a0,.int .i64 a1.File,.int .i64 a1.At]⟩)) [] []⟩
def Jey:GI→Prop:=Sg2 Jfb JeA
theorem Juv:∀ g,Jey g→Jn Tryz.prog 39 g:=by
 rintro _ ⟨a0,a1,r,H,rfl⟩
 refine xGn mixed [] [] [] trivial trivial trivial Tryz.func39 _ ?_
 have G:=True.intro
 have Y:=xZ y_3 <| xZ y_29 <| xZ y_31 <| xZ y_44 <| xZ y_78 <| xZ Tryz.results39 <| xZ Jm.eq_1 <| xZ Ja.eq_1 <| JeA.eq_1
 dsimp only[JeA]
 unfold Jfb at H
 have F:=Y
 refine xQp [4,5,6,7,8,9,10,11,12,13,14,15] ?_
 refine xs 12 ?_
 refine xv ?_
 refine xS ?_
 refine xpD [] ?_
 exact xOv ⟨[],[]⟩
theorem JgQ:Jd Tryz.prog 39∧(∀ g,Jey g→Jn Tryz.prog 39 g)∧(false=true→∀ g,Jey g→∃ val bs ts,g.out=.ret val bs ts) :=
 ⟨JEk,Juv,nofun⟩
noncomputable def JV(a0:List Token)(a1:List Source)(a2 a3 a4:Int)(a5:List Macro)(a6 a7:List Int)(a8:Int)(a9:List Token):Option (GR Yz YQ) :=
 if(eqI (a0.length:Int) 0)=true then some (.ok (a2,a9)) else grB (ZB a0 a1 a2 a3 a4 a5 a6 a7 a8 a9) (fun r1=>if(a9.length+r1.1.length) * 120≤140737488355328 then if(ltI a3 ((a9.length+r1.1.length:Nat):Int))=true then if 0<a0.length then(Jfb 4 (a0.getD 0 default)).bind fun e2=>some (.er (4,(a0.getD 0 default).File,(a0.getD 0 default).At,r1.2,a9++r1.1)) else none else some (.ok (r1.2,a9++r1.1)) else none) (fun e1=>some (.er (e1.1,e1.2.1,e1.2.2,a2,a9)))
def Jj4(a0:List Token)(a1:List Source)(a2 a3 a4:Int)(a5:List Macro)(a6 a7:List Int)(a8:Int)(a9:List Token):GR Yz YQ→GOut
 | .ok r=>.ret (.tu []) [[.d (.sl 2 (List.map Jg a1)),kI r.1,kI a3,kI a4,.d (.sl 5 (List.map Jf a5)),.sl 1 (List.map dI a6) 4,.os 3 11 0 r.2.length,.sl 1 (List.map dI a7) 5,kI a8],[],[.arr 11 (List.map Ja r.2)]] [3,3]
 | .er r=>.pan (.iface 78 (.agg ⟨[.int .i64 r.1,.int .i64 r.2.1,.int .i64 r.2.2.1]⟩)) [[.d (.sl 2 (List.map Jg a1)),kI r.2.2.2.1,kI a3,kI a4,.d (.sl 5 (List.map Jf a5)),.sl 1 (List.map dI a6) 4,.os 3 11 0 r.2.2.2.2.length,.sl 1 (List.map dI a7) 5,kI a8],[],[.arr 11 (List.map Ja r.2.2.2.2)]] [3,3]
def Jbl(a0:List Token)(a1:List Source)(a2 a3 a4:Int)(a5:List Macro)(a6 a7:List Int)(a8:Int)(a9:List Token)(r:GR Yz YQ):GI :=
 ⟨[.c (.pt 1 0),.c (.d (.sl 11 (List.map Ja a0)))],[[.d (.sl 2 (List.map Jg a1)),kI a2,kI a3,kI a4,.d (.sl 5 (List.map Jf a5)),.sl 1 (List.map dI a6) 3,.os 2 11 0 a9.length,.sl 1 (List.map dI a7) 4,kI a8],[.arr 11 (List.map Ja a9)]],[3,3],Jj4 a0 a1 a2 a3 a4 a5 a6 a7 a8 a9 r⟩
def Jbm:GI→Prop:=Sg10 JV Jbl
theorem JjT:∀ g,Jbm g→Jn Tryz.prog 36 g:=by
 rintro _ ⟨a0,a1,a2,a3,a4,a5,a6,a7,a8,a9,r,H,rfl⟩
 refine xGnl mixed [1] [] [(54,false,XI),(39,false,Jey)] [] trivial ⟨Vw,JgQ,trivial⟩ trivial Tryz.func36 _ ?_
 have G:=True.intro
 have Y:=xZ y_3 <| xZ y_24 <| xZ y_27 <| xZ y_39 <| xZ y_44 <| xZ y_65 <| xZ Tryz.results36 <| xZ Jg.eq_1 <| xZ Jm.eq_1 <| xZ Ja.eq_1 <| xZ Jf.eq_1 <| xZ KF.eq_1 <| xZ XM.eq_1 <| xZ JeA.eq_1 <| Jbl.eq_1
 dsimp only[Jbl]
 simp only[JV]at H
 refine xS ?_
 refine xrn 2 1 ?_
 refine xr ?_
 rcases xB Y G H with⟨p,H,F,G,q⟩|⟨p,H,F,G,q⟩
 ·replace H:=oI H
  refine xT ?_
  subst H
  refine xrD [] ?_
  exact xO ⟨[1,2,5],[3,4]⟩
 refine xE ?_
 rcases Jae H with⟨r1,hr1,H⟩|⟨e1,hr2,H⟩
 ·have F:=Y
  obtain⟨g,H⟩:=Jc H
  have F:=xZ F (JO KU r1.1)
  have A:=JO KU r1.1
  refine xP [0,1,2,3,4,5,6,7,8,9,10,11,12,13] [12,888888] ⟨Vw,JgQ,trivial⟩ ?_
  refine xsX 5 ?_
  refine xaX ?_
  refine xsX 2 ?_
  refine xcX ⟨[1,5],[3,4]⟩ (tabG 0 (cg10 hr1)) ?_
  refine xbX ?_
  refine xsX 4 ?_
  refine xlX ?_
  refine xS ?_
  refine xr ?_
  rcases xB Y G H with⟨p,H,F,G,q⟩|⟨p,H,F,G,q⟩
  ·refine xT ?_
   obtain⟨g,H⟩:=Jc H
   have F:=xZ Y (Jh Ja a0 0 default default (by omega))
   obtain⟨e2,hr4,H⟩:=Jj H
   have F:=F
   refine xQp [32,33,34] ?_
   refine xs 2 ?_
   refine xp ⟨[],[]⟩ (tabG 1 (cg2 hr4)) ?_
   replace H:=oI H
   refine xS ?_
   subst H
   refine xpD [] ?_
   exact xOv ⟨[1,2,10],[8,9]⟩
  replace H:=oI H
  refine xE ?_
  subst H
  refine xnD [] ?_
  exact xO ⟨[1,2,10],[8,9]⟩
 have F:=Y
 refine xPp [7,8,9,10,11,12,13,14,15,16,17,18,19] [0,1,2,3,4,5,6,7,8,9,10,11,12,13] [12,888888] ⟨Vw,JgQ,trivial⟩ ?_
 refine xsX 5 ?_
 refine xaX ?_
 refine xsX 2 ?_
 refine xpX ⟨[1,5],[3,4]⟩ (tabG 0 (cg10 hr2)) ?_
 replace H:=oI H
 refine xS ?_
 subst H
 refine xpD [] ?_
 exact xOv ⟨[1,2,5],[8,9]⟩
theorem Jj9:Jd Tryz.prog 36∧(∀ g,Jbm g→Jn Tryz.prog 36 g)∧(false=true→∀ g,Jbm g→∃ val bs ts,g.out=.ret val bs ts) :=
 ⟨JDE,JjT,nofun⟩
noncomputable def Vu:Bool→Option Bool
 | x1=>some x1
noncomputable def VD(a0:List UInt8)(a1:List Source)(a2 a3 a4:Int)(a5:List Macro)(a6 a7:List Int)(a8:Int)(a9:List Token):Option Bool :=
 (KI a5 a0).bind fun r1=>if(leI 0 r1)=true then Vu true else if(eqS a0 [95,95,76,73,78,69,95,95])=true then Vu true else Vu (eqS a0 [95,95,70,73,76,69,95,95])
def X3(a0:List UInt8)(a1:List Source)(a2 a3 a4:Int)(a5:List Macro)(a6 a7:List Int)(a8:Int)(a9:List Token)(r:Bool):GI :=
 ⟨[.c (.pt 1 0),cS a0],[[.d (.sl 2 (List.map Jg a1)),kI a2,kI a3,kI a4,.d (.sl 5 (List.map Jf a5)),.sl 1 (List.map dI a6) 3,.os 2 11 0 a9.length,.sl 1 (List.map dI a7) 4,kI a8],[.arr 11 (List.map Ja a9)]],[3,3],.ret (cB r) [[.d (.sl 2 (List.map Jg a1)),kI a2,kI a3,kI a4,.d (.sl 5 (List.map Jf a5)),.sl 1 (List.map dI a6) 3,.os 2 11 0 a9.length,.sl 1 (List.map dI a7) 4,kI a8],[.arr 11 (List.map Ja a9)]] [3,3]⟩
def X6:GI→Prop:=Sg10 VD X3
theorem JjC:∀ g,X6 g→Jn Tryz.prog 81 g:=by
 rintro _ ⟨a0,a1,a2,a3,a4,a5,a6,a7,a8,a9,r,H,rfl⟩
 refine xGn mixed [(86,Jd0)] [] [] ⟨⟨JqD,JhL⟩,trivial⟩ trivial trivial Tryz.func81 _ ?_
 have G:=True.intro
 have Y:=xZ y_28 <| xZ y_65 <| xZ Tryz.results81 <| xZ Jg.eq_1 <| xZ Jm.eq_1 <| xZ Ja.eq_1 <| xZ Jf.eq_1 <| xZ KF.eq_1 <| X3.eq_1
 dsimp only[X3]
 simp only[VD]at H
 refine xS ?_
 refine xr0 ?_
 refine Jk ?_
 refine Jo Vu (fun s=>[(4,cB s)]) (fun s=>[[.d (.sl 2 (List.map Jg a1)),kI a2,kI a3,kI a4,.d (.sl 5 (List.map Jf a5)),.sl 1 (List.map dI a6) 3,.os 2 11 0 a9.length,.sl 1 (List.map dI a7) 4,kI a8],[.arr 11 (List.map Ja a9)]]) [3,3] r ?_ ?_
 ·obtain⟨r1,hr1,H⟩:=Jj H
  have F:=xC Y (Jiy a5 a0 r1 hr1)
  rcases xB F G H with⟨p,H,F,G,q⟩|⟨p,H,F,G,q⟩
  ·refine xR ?_
   exact Jb H (xK ⟨[1,2],[3,4]⟩)
  rcases xB F G H with⟨p,H,F,G,q⟩|⟨p,H,F,G,q⟩
  ·refine xR ?_
   exact Jb H (xK ⟨[1,2],[3,4]⟩)
  refine xR ?_
  exact Jb H (xK ⟨[1,2],[3,4]⟩)
 rintro x1 H
 rw[Vu]at H
 replace H:=oI H
 refine xS ?_
 subst H
 refine xrD [] ?_
 exact xO ⟨[1,2],[3,4]⟩
theorem Jbh:Jd Tryz.prog 81∧(∀ g,X6 g→Jn Tryz.prog 81 g)∧(true=true→∀ g,X6 g→∃ val bs ts,g.out=.ret val bs ts) :=
 ⟨JDr,JjC,fun _=>by rintro _ ⟨_,_,_,_,_,_,_,_,_,_,_,_,rfl⟩; exact⟨_,_,_,rfl⟩⟩
noncomputable def Zt:YQ→Option YC
 | (x3,x4)=>some (.inl (IntKind.i64.wrap (x3+1),x4))
noncomputable def Zx(x2:List Token)(x8 x9:Bool)(x10 x11 x12 x13:Int)(x14:List (List UInt8))(x15:List Call)(x16:Int)(x22:List UInt8):Int→Option YC
 | x23=>if(x2.length + [(⟨2,x22,x8,x9,x10,x11,x12,x13,x14,x15,x16⟩:Token)].length) * 120≤140737488355328 then Zt (x23,x2++[(⟨2,x22,x8,x9,x10,x11,x12,x13,x14,x15,x16⟩:Token)]) else none
noncomputable def Zp(x2:List Token)(x8 x9:Bool)(x10 x11 x12 x13:Int)(x14:List (List UInt8))(x15:List Call)(x16:Int)(x22:List UInt8):(Int×Bool)→Option YC
 | (x24,x25)=>if x25=true then none else Zx x2 x8 x9 x10 x11 x12 x13 x14 x15 x16 x22 x24
noncomputable def Zq(a0 x2:List Token)(x8 x9:Bool)(x10 x11 x12 x13:Int)(x14:List (List UInt8))(x15:List Call)(x16:Int)(x19:Bool)(x20:Int):(List UInt8)→Option YC
 | x22=>if x19=true then if(leI (a0.length:Int) (IntKind.i64.wrap (x20+1)))=true then Zp x2 x8 x9 x10 x11 x12 x13 x14 x15 x16 x22 (IntKind.i64.wrap (x20+1),true) else if(0:Int)≤(IntKind.i64.wrap (x20+1))∧(IntKind.i64.wrap (x20+1)).toNat<a0.length then Zp x2 x8 x9 x10 x11 x12 x13 x14 x15 x16 x22 (IntKind.i64.wrap (x20+1),!eqS ((a0.getD ((IntKind.i64.wrap (x20+1)).toNat) default).Text) [41]) else none else Zx x2 x8 x9 x10 x11 x12 x13 x14 x15 x16 x22 x20
noncomputable def Zy(a0:List Token)(a1:List Source)(a2 a3 a4:Int)(a5:List Macro)(a6 a7:List Int)(a8:Int)(a9 x2:List Token)(x8 x9:Bool)(x10 x11 x12 x13:Int)(x14:List (List UInt8))(x15:List Call)(x16:Int)(x19:Bool):(Int×Bool)→Option YC
 | (x20,x21)=>if x21=true then none else if(0:Int)≤x20∧x20.toNat<a0.length then(VD ((a0.getD x20.toNat default).Text) a1 a2 a3 a4 a5 a6 a7 a8 a9).bind fun r1=>if r1=true then Zq a0 x2 x8 x9 x10 x11 x12 x13 x14 x15 x16 x19 x20 [49] else Zq a0 x2 x8 x9 x10 x11 x12 x13 x14 x15 x16 x19 x20 [48] else none
noncomputable def Zz(a0:List Token)(a1:List Source)(a2 a3 a4:Int)(a5:List Macro)(a6 a7:List Int)(a8:Int)(a9 x2:List Token)(x8 x9:Bool)(x10 x11 x12 x13:Int)(x14:List (List UInt8))(x15:List Call)(x16:Int):(Int×Bool)→Option YC
 | (x18,x19)=>if(leI (a0.length:Int) (IntKind.i64.wrap (x18+1)))=true then Zy a0 a1 a2 a3 a4 a5 a6 a7 a8 a9 x2 x8 x9 x10 x11 x12 x13 x14 x15 x16 x19 (IntKind.i64.wrap (x18+1),true) else if(0:Int)≤(IntKind.i64.wrap (x18+1))∧(IntKind.i64.wrap (x18+1)).toNat<a0.length then Zy a0 a1 a2 a3 a4 a5 a6 a7 a8 a9 x2 x8 x9 x10 x11 x12 x13 x14 x15 x16 x19 (IntKind.i64.wrap (x18+1),!eqI ((a0.getD ((IntKind.i64.wrap (x18+1)).toNat) default).Kind) 1) else none
noncomputable def Zn(a0:List Token)(a1:List Source)(a2 a3 a4:Int)(a5:List Macro)(a6 a7:List Int)(a8:Int)(a9:List Token)(x1:Int)(x2:List Token)(x8 x9:Bool)(x10 x11 x12 x13:Int)(x14:List (List UInt8))(x15:List Call)(x16:Int):Bool→Option YC
 | x17=>if x17=true then Zz a0 a1 a2 a3 a4 a5 a6 a7 a8 a9 x2 x8 x9 x10 x11 x12 x13 x14 x15 x16 (IntKind.i64.wrap (x1+1),true) else Zz a0 a1 a2 a3 a4 a5 a6 a7 a8 a9 x2 x8 x9 x10 x11 x12 x13 x14 x15 x16 (x1,false)
noncomputable def Zv(a0:List Token)(a1:List Source)(a2 a3 a4:Int)(a5:List Macro)(a6 a7:List Int)(a8:Int)(a9:List Token)(x1:Int)(x2:List Token):Ye→Option YC
 | (x5,x6,x7,x8,x9,x10,x11,x12,x13,x14,x15,x16)=>if x5=true then if(x2.length + [(⟨x6,x7,x8,x9,x10,x11,x12,x13,x14,x15,x16⟩:Token)].length) * 120≤140737488355328 then Zt (x1,x2++[(⟨x6,x7,x8,x9,x10,x11,x12,x13,x14,x15,x16⟩:Token)]) else none else if(ltI (IntKind.i64.wrap (x1+1)) (a0.length:Int))=true then if(0:Int)≤(IntKind.i64.wrap (x1+1))∧(IntKind.i64.wrap (x1+1)).toNat<a0.length then Zn a0 a1 a2 a3 a4 a5 a6 a7 a8 a9 x1 x2 x8 x9 x10 x11 x12 x13 x14 x15 x16 (eqS ((a0.getD ((IntKind.i64.wrap (x1+1)).toNat) default).Text) [40]) else none else Zn a0 a1 a2 a3 a4 a5 a6 a7 a8 a9 x1 x2 x8 x9 x10 x11 x12 x13 x14 x15 x16 false
noncomputable def Jb9(a0:List Token)(a1:List Source)(a2 a3 a4:Int)(a5:List Macro)(a6 a7:List Int)(a8:Int)(a9:List Token):YQ→Option YC
 | (x1,x2)=>if(ltI x1 (a0.length:Int))=true then if(0:Int)≤x1∧x1.toNat<a0.length then if(!eqS ((a0.getD x1.toNat default).Text) [100,101,102,105,110,101,100])=true then Zv a0 a1 a2 a3 a4 a5 a6 a7 a8 a9 x1 x2 (true,(a0.getD x1.toNat default).Kind,(a0.getD x1.toNat default).Text,(a0.getD x1.toNat default).Space,(a0.getD x1.toNat default).First,(a0.getD x1.toNat default).File,(a0.getD x1.toNat default).At,(a0.getD x1.toNat default).End,(a0.getD x1.toNat default).Line,(a0.getD x1.toNat default).Hide,(a0.getD x1.toNat default).Calls,(a0.getD x1.toNat default).Made) else Zv a0 a1 a2 a3 a4 a5 a6 a7 a8 a9 x1 x2 (!eqI ((a0.getD x1.toNat default).Kind) 1,(a0.getD x1.toNat default).Kind,(a0.getD x1.toNat default).Text,(a0.getD x1.toNat default).Space,(a0.getD x1.toNat default).First,(a0.getD x1.toNat default).File,(a0.getD x1.toNat default).At,(a0.getD x1.toNat default).End,(a0.getD x1.toNat default).Line,(a0.getD x1.toNat default).Hide,(a0.getD x1.toNat default).Calls,(a0.getD x1.toNat default).Made) else none else inrO (some x2)
noncomputable def JdE(a0:List Token)(a1:List Source)(a2 a3 a4:Int)(a5:List Macro)(a6 a7:List Int)(a8:Int)(a9:List Token):Option (List Token) :=
 Jt (Jb9 a0 a1 a2 a3 a4 a5 a6 a7 a8 a9) (0,([]:List Token))
def ZZ(a0:List Token)(a1:List Source)(a2 a3 a4:Int)(a5:List Macro)(a6 a7:List Int)(a8:Int)(a9:List Token)(r:(List Token)):GI :=
 ⟨[.c (.pt 1 0),.c (.d (.sl 11 (List.map Ja a0)))],[[.d (.sl 2 (List.map Jg a1)),kI a2,kI a3,kI a4,.d (.sl 5 (List.map Jf a5)),.sl 1 (List.map dI a6) 3,.os 2 11 0 a9.length,.sl 1 (List.map dI a7) 4,kI a8],[.arr 11 (List.map Ja a9)]],[3,3],.ret (.c (.d (.sl 11 (List.map Ja r)))) [[.d (.sl 2 (List.map Jg a1)),kI a2,kI a3,kI a4,.d (.sl 5 (List.map Jf a5)),.sl 1 (List.map dI a6) 3,.os 2 11 0 a9.length,.sl 1 (List.map dI a7) 4,kI a8],[.arr 11 (List.map Ja a9)]] [3,3]⟩
def ZX:GI→Prop:=Sg10 JdE ZZ
theorem JiP:∀ g,ZX g→Jn Tryz.prog 80 g:=by
 rintro _ ⟨a0,a1,a2,a3,a4,a5,a6,a7,a8,a9,r,H,rfl⟩
 refine xGn mixed [] [(81,true,X6)] [] trivial ⟨Jbh,trivial⟩ trivial Tryz.func80 _ ?_
 have G:=True.intro
 have Y:=xZ y_3 <| xZ y_9 <| xZ y_24 <| xZ y_44 <| xZ Tryz.results80 <| xZ Jg.eq_1 <| xZ Jm.eq_1 <| xZ Ja.eq_1 <| xZ Jf.eq_1 <| xZ KF.eq_1 <| xZ X3.eq_1 <| ZZ.eq_1
 dsimp only[ZZ]
 simp only[JdE]at H
 refine xS ?_
 refine xr ?_
 refine xr ?_
 refine xr ?_
 refine JK (Jb9 a0 a1 a2 a3 a4 a5 a6 a7 a8 a9) (fun s=>[(0,.c (.pt 1 0)),(1,.c (.d (.sl 11 (List.map Ja a0)))),(5,.c (.os 3 11 0 s.2.length)),(6,cI s.1)]) (fun s=>[[.d (.sl 2 (List.map Jg a1)),kI a2,kI a3,kI a4,.d (.sl 5 (List.map Jf a5)),.sl 1 (List.map dI a6) 4,.os 2 11 0 a9.length,.sl 1 (List.map dI a7) 5,kI a8],[.arr 11 (List.map Ja a9)],[.arr 11 (List.map Ja s.2)]]) [3,3] H (xK ⟨[1,2,0],[3,4]⟩) ?_
 rintro n1 ⟨x1,x2⟩ o1 H hF1
 rw[Jb9]at H
 refine xS ?_
 refine xr ?_
 rcases xB Y G H with⟨p,H,F,G,q⟩|⟨p,H,F,G,q⟩
 ·refine xT0 ?_
  refine V0 ?_
  refine Jk ?_
  refine Jo Zt (fun s=>[(0,.c (.pt 1 0)),(1,.c (.d (.sl 11 (List.map Ja a0)))),(5,.c (.os 3 11 0 s.2.length)),(6,cI s.1)]) (fun s=>[[.d (.sl 2 (List.map Jg a1)),kI a2,kI a3,kI a4,.d (.sl 5 (List.map Jf a5)),.sl 1 (List.map dI a6) 4,.os 2 11 0 a9.length,.sl 1 (List.map dI a7) 5,kI a8],[.arr 11 (List.map Ja a9)],[.arr 11 (List.map Ja s.2)]]) [3,3] o1 ?_ ?_
  ·refine xS ?_
   obtain⟨g,H⟩:=Jc H
   have F:=xZ Y (Jh Ja a0 x1.toNat default default (by omega))
   refine xR0 ?_
   refine Jk ?_
   refine Kv ?_
   refine Jo (Zv a0 a1 a2 a3 a4 a5 a6 a7 a8 a9 x1 x2) (fun s=>[(0,.c (.pt 1 0)),(1,.c (.d (.sl 11 (List.map Ja a0)))),(5,.c (.os 3 11 0 x2.length)),(6,cI x1),(7,.c (.pt 4 0)),(27,cB s.1)]) (fun s=>[[.d (.sl 2 (List.map Jg a1)),kI a2,kI a3,kI a4,.d (.sl 5 (List.map Jf a5)),.sl 1 (List.map dI a6) 5,.os 2 11 0 a9.length,.sl 1 (List.map dI a7) 6,kI a8],[.arr 11 (List.map Ja a9)],[.arr 11 (List.map Ja x2)],[kI s.2.1,kS s.2.2.1,kB s.2.2.2.1,kB s.2.2.2.2.1,kI s.2.2.2.2.2.1,kI s.2.2.2.2.2.2.1,kI s.2.2.2.2.2.2.2.1,kI s.2.2.2.2.2.2.2.2.1,.d (.sl 1 (List.map dS s.2.2.2.2.2.2.2.2.2.1)),.d (.sl 3 (List.map Jm s.2.2.2.2.2.2.2.2.2.2.1)),kI s.2.2.2.2.2.2.2.2.2.2.2]]) [3,3] o1 ?_ ?_
   ·rcases xB Y G H with⟨p,H,F,G,q⟩|⟨p,H,F,G,q⟩
    ·refine xR ?_
     exact Jb H (xK ⟨[1,2,3,6],[4,5]⟩)
    refine xR ?_
    exact Jb H (xK ⟨[1,2,3,6],[4,5]⟩)
   rintro ⟨x5,x6,x7,x8,x9,x10,x11,x12,x13,x14,x15,x16⟩ H
   rw[Zv]at H
   rcases xB Y G H with⟨p,H,F,G,q⟩|⟨p,H,F,G,q⟩
   ·refine xT ?_
    obtain⟨g,H⟩:=Jc H
    have F:=xZ Y (JO KU [(⟨x6,x7,x8,x9,x10,x11,x12,x13,x14,x15,x16⟩:Token)])
    have L:[(⟨x6,x7,x8,x9,x10,x11,x12,x13,x14,x15,x16⟩:Token)].length=1:=rfl
    refine xR ?_
    exact Jb H (xK ⟨[1,2,7],[5,6]⟩)
   refine xE0 ?_
   refine V0 ?_
   refine Jk ?_
   refine Jo (Zn a0 a1 a2 a3 a4 a5 a6 a7 a8 a9 x1 x2 x8 x9 x10 x11 x12 x13 x14 x15 x16) (fun s=>[(0,.c (.pt 1 0)),(1,.c (.d (.sl 11 (List.map Ja a0)))),(5,.c (.os 3 11 0 x2.length)),(6,cI x1),(7,.c (.pt 4 0)),(8,cB s)]) (fun s=>[[.d (.sl 2 (List.map Jg a1)),kI a2,kI a3,kI a4,.d (.sl 5 (List.map Jf a5)),.sl 1 (List.map dI a6) 5,.os 2 11 0 a9.length,.sl 1 (List.map dI a7) 6,kI a8],[.arr 11 (List.map Ja a9)],[.arr 11 (List.map Ja x2)],[kI x6,kS x7,kB x8,kB x9,kI x10,kI x11,kI x12,kI x13,.d (.sl 1 (List.map dS x14)),.d (.sl 3 (List.map Jm x15)),kI x16]]) [3,3] o1 ?_ ?_
   ·rcases xB Y G H with⟨p,H,F,G,q⟩|⟨p,H,F,G,q⟩
    ·obtain⟨g,H⟩:=Jc H
     have F:=xZ F (Jh Ja a0 ((IntKind.i64.wrap (x1+1)).toNat) default default (by omega))
     refine xR ?_
     exact Jb H (xK ⟨[1,2,3,4],[5,6]⟩)
    refine xR ?_
    exact Jb H (xK ⟨[1,2,3,4],[5,6]⟩)
   rintro x17 H
   rw[Zn]at H
   refine Jo (Zz a0 a1 a2 a3 a4 a5 a6 a7 a8 a9 x2 x8 x9 x10 x11 x12 x13 x14 x15 x16) (fun s=>[(0,.c (.pt 1 0)),(1,.c (.d (.sl 11 (List.map Ja a0)))),(5,.c (.os 3 11 0 x2.length)),(6,cI s.1),(7,.c (.pt 4 0)),(8,cB s.2)]) (fun s=>[[.d (.sl 2 (List.map Jg a1)),kI a2,kI a3,kI a4,.d (.sl 5 (List.map Jf a5)),.sl 1 (List.map dI a6) 5,.os 2 11 0 a9.length,.sl 1 (List.map dI a7) 6,kI a8],[.arr 11 (List.map Ja a9)],[.arr 11 (List.map Ja x2)],[kI x6,kS x7,kB x8,kB x9,kI x10,kI x11,kI x12,kI x13,.d (.sl 1 (List.map dS x14)),.d (.sl 3 (List.map Jm x15)),kI x16]]) [3,3] o1 ?_ ?_
   ·refine xS ?_
    refine xr ?_
    rcases xB Y G H with⟨p,H,F,G,q⟩|⟨p,H,F,G,q⟩
    ·refine xT ?_
     refine xr ?_
     exact Jb H (xK ⟨[1,2,3,4],[5,6]⟩)
    refine xE ?_
    exact Jb H (xK ⟨[1,2,3,4],[5,6]⟩)
   rintro ⟨x18,x19⟩ H
   rw[Zz]at H
   refine xS ?_
   refine xr0 ?_
   refine Jk ?_
   refine Jo (Zy a0 a1 a2 a3 a4 a5 a6 a7 a8 a9 x2 x8 x9 x10 x11 x12 x13 x14 x15 x16 x19) (fun s=>[(0,.c (.pt 1 0)),(1,.c (.d (.sl 11 (List.map Ja a0)))),(5,.c (.os 3 11 0 x2.length)),(6,cI s.1),(7,.c (.pt 4 0)),(8,cB x19),(62,cB s.2)]) (fun s=>[[.d (.sl 2 (List.map Jg a1)),kI a2,kI a3,kI a4,.d (.sl 5 (List.map Jf a5)),.sl 1 (List.map dI a6) 5,.os 2 11 0 a9.length,.sl 1 (List.map dI a7) 6,kI a8],[.arr 11 (List.map Ja a9)],[.arr 11 (List.map Ja x2)],[kI x6,kS x7,kB x8,kB x9,kI x10,kI x11,kI x12,kI x13,.d (.sl 1 (List.map dS x14)),.d (.sl 3 (List.map Jm x15)),kI x16]]) [3,3] o1 ?_ ?_
   ·rcases xB Y G H with⟨p,H,F,G,q⟩|⟨p,H,F,G,q⟩
    ·refine xR ?_
     exact Jb H (xK ⟨[1,2,3,4],[5,6]⟩)
    obtain⟨g,H⟩:=Jc H
    have F:=xZ F (Jh Ja a0 ((IntKind.i64.wrap (x18+1)).toNat) default default (by omega))
    refine xR ?_
    exact Jb H (xK ⟨[1,2,3,4],[5,6]⟩)
   rintro ⟨x20,x21⟩ H
   rw[Zy]at H
   rcases xB Y G H with⟨p,H,F,G,q⟩|⟨p,H,F,G,q⟩
   ·refine xT ?_
    cases H
   refine xE ?_
   refine xr0 ?_
   refine Jk ?_
   refine Jo (Zq a0 x2 x8 x9 x10 x11 x12 x13 x14 x15 x16 x19 x20) (fun s=>[(0,.c (.pt 1 0)),(1,.c (.d (.sl 11 (List.map Ja a0)))),(5,.c (.os 3 11 0 x2.length)),(6,cI x20),(7,.c (.pt 4 0)),(8,cB x19),(9,cS s)]) (fun s=>[[.d (.sl 2 (List.map Jg a1)),kI a2,kI a3,kI a4,.d (.sl 5 (List.map Jf a5)),.sl 1 (List.map dI a6) 5,.os 2 11 0 a9.length,.sl 1 (List.map dI a7) 6,kI a8],[.arr 11 (List.map Ja a9)],[.arr 11 (List.map Ja x2)],[kI x6,kS x7,kB x8,kB x9,kI x10,kI x11,kI x12,kI x13,.d (.sl 1 (List.map dS x14)),.d (.sl 3 (List.map Jm x15)),kI x16]]) [3,3] o1 ?_ ?_
   ·refine xS ?_
    obtain⟨g,H⟩:=Jc H
    have F:=xZ Y (Jh Ja a0 x20.toNat default default (by omega))
    obtain⟨r1,hr1,H⟩:=Jj H
    have F:=F
    refine xQ ?_
    refine xs 6 ?_
    refine xc ⟨[1,2],[5,6]⟩ (tabG 0 (cg10 hr1)) ?_
    refine xl ?_
    refine xS ?_
    rcases xB Y G H with⟨p,H,F,G,q⟩|⟨p,H,F,G,q⟩
    ·refine xT ?_
     refine xr ?_
     exact Jb H (xK ⟨[1,2,3,4],[9,10]⟩)
    refine xE ?_
    exact Jb H (xK ⟨[1,2,3,4],[9,10]⟩)
   rintro x22 H
   rw[Zq]at H
   refine Jo (Zx x2 x8 x9 x10 x11 x12 x13 x14 x15 x16 x22) (fun s=>[(0,.c (.pt 1 0)),(1,.c (.d (.sl 11 (List.map Ja a0)))),(5,.c (.os 3 11 0 x2.length)),(6,cI s),(7,.c (.pt 4 0)),(9,cS x22)]) (fun s=>[[.d (.sl 2 (List.map Jg a1)),kI a2,kI a3,kI a4,.d (.sl 5 (List.map Jf a5)),.sl 1 (List.map dI a6) 5,.os 2 11 0 a9.length,.sl 1 (List.map dI a7) 6,kI a8],[.arr 11 (List.map Ja a9)],[.arr 11 (List.map Ja x2)],[kI x6,kS x7,kB x8,kB x9,kI x10,kI x11,kI x12,kI x13,.d (.sl 1 (List.map dS x14)),.d (.sl 3 (List.map Jm x15)),kI x16]]) [3,3] o1 ?_ ?_
   ·refine xS ?_
    refine xr ?_
    rcases xB Y G H with⟨p,H,F,G,q⟩|⟨p,H,F,G,q⟩
    ·refine xT ?_
     refine xr0 ?_
     refine Jk ?_
     refine Jo (Zp x2 x8 x9 x10 x11 x12 x13 x14 x15 x16 x22) (fun s=>[(0,.c (.pt 1 0)),(1,.c (.d (.sl 11 (List.map Ja a0)))),(5,.c (.os 3 11 0 x2.length)),(6,cI s.1),(7,.c (.pt 4 0)),(9,cS x22),(85,cB s.2)]) (fun s=>[[.d (.sl 2 (List.map Jg a1)),kI a2,kI a3,kI a4,.d (.sl 5 (List.map Jf a5)),.sl 1 (List.map dI a6) 5,.os 2 11 0 a9.length,.sl 1 (List.map dI a7) 6,kI a8],[.arr 11 (List.map Ja a9)],[.arr 11 (List.map Ja x2)],[kI x6,kS x7,kB x8,kB x9,kI x10,kI x11,kI x12,kI x13,.d (.sl 1 (List.map dS x14)),.d (.sl 3 (List.map Jm x15)),kI x16]]) [3,3] o1 ?_ ?_
     ·rcases xB Y G H with⟨p,H,F,G,q⟩|⟨p,H,F,G,q⟩
      ·refine xR ?_
       exact Jb H (xK ⟨[1,2,3,4],[5,6]⟩)
      obtain⟨g,H⟩:=Jc H
      have F:=xZ F (Jh Ja a0 ((IntKind.i64.wrap (x20+1)).toNat) default default (by omega))
      refine xR ?_
      exact Jb H (xK ⟨[1,2,3,4],[5,6]⟩)
     rintro ⟨x24,x25⟩ H
     rw[Zp]at H
     rcases xB Y G H with⟨p,H,F,G,q⟩|⟨p,H,F,G,q⟩
     ·refine xT ?_
      cases H
     refine xE ?_
     exact Jb H (xK ⟨[1,2,3,4],[5,6]⟩)
    refine xE ?_
    exact Jb H (xK ⟨[1,2,3,4],[5,6]⟩)
   rintro x23 H
   rw[Zx]at H
   refine xS ?_
   refine xr ?_
   obtain⟨g,H⟩:=Jc H
   have F:=xZ Y (JO KU [(⟨2,x22,x8,x9,x10,x11,x12,x13,x14,x15,x16⟩:Token)])
   have L:[(⟨2,x22,x8,x9,x10,x11,x12,x13,x14,x15,x16⟩:Token)].length=1:=rfl
   refine xR ?_
   exact Jb H (xK ⟨[1,2,7],[5,6]⟩)
  rintro ⟨x3,x4⟩ H
  rw[Zt]at H
  refine xr ?_
  exact Jw (JA H hF1) (xK ⟨[1,2,3],[4,5]⟩)
 replace H:=Jq H hF1
 refine xE ?_
 replace H:=oI H
 refine xr ?_
 subst H
 refine xOf 3 11 (List.map Ja x2) [] ?_
 refine xrD [] ?_
 exact xO ⟨[1,2],[4,5]⟩
theorem JcP:Jd Tryz.prog 80∧(∀ g,ZX g→Jn Tryz.prog 80 g)∧(true=true→∀ g,ZX g→∃ val bs ts,g.out=.ret val bs ts) :=
 ⟨JDO,JiP,fun _=>by rintro _ ⟨_,_,_,_,_,_,_,_,_,_,_,_,rfl⟩; exact⟨_,_,_,rfl⟩⟩
noncomputable def Jau(r2:YV)(r3:(Int×Int)):(Int×Int)→Option Yw
 | (x2,x3)=>grB (JdH (⟨0,x2,x3⟩:Fault)) (fun r4=>some (.ok (!eqI r3.1 0,r2.2))) (fun e2=>some (.er ((⟨0,x2,x3⟩:Fault).Err,(⟨0,x2,x3⟩:Fault).File,(⟨0,x2,x3⟩:Fault).At,r2.2)))
noncomputable def JaE(a0:List Token)(r2:YV)(r3:(Int×Int)):Bool→Option Yw
 | x4=>if x4=true then if 1<a0.length then if 1<a0.length then Jau r2 r3 ((a0.getD 1 default).File,(a0.getD 1 default).At) else none else none else Jau r2 r3 (r3.2,0)
noncomputable def XO(a0:List Token)(a1:List Source)(a2 a3 a4:Int)(a5:List Macro)(a6 a7:List Int)(a8:Int)(a9:List Token):Bool→Option Yw
 | x5=>if x5=true then if 1<a0.length then none else none else if 2<a0.length then if 1<a0.length then(VD ((a0.getD 2 default).Text) a1 a2 a3 a4 a5 a6 a7 a8 a9).bind fun r5=>some (.ok (eqB r5 (eqS ((a0.getD 1 default).Text) [105,102,100,101,102]),a2)) else none else none
noncomputable def XP(a0:List Token)(a1:List Source)(a2 a3 a4:Int)(a5:List Macro)(a6 a7:List Int)(a8:Int)(a9:List Token):Bool→Option Yw
 | x1=>if x1=true then if(eqI (a0.length:Int) 2)=true then if 1<a0.length then none else none else if(0:Int)≤2∧2≤(a0.length:Int)∧(a0.length:Int)≤(a0.length:Int) then(JdE (List.drop 2 a0) a1 a2 a3 a4 a5 a6 a7 a8 a9).bind fun r1=>grB (ZB r1 a1 a2 a3 a4 a5 a6 a7 a8 a9) (fun r2=>(JmG r2.1).bind fun r3=>if(ltI r3.2 0)=true then JaE a0 r2 r3 (!eqI 0 0) else JaE a0 r2 r3 false) (fun e1=>some (.er (e1.1,e1.2.1,e1.2.2,a2))) else none else if(!eqI (a0.length:Int) 3)=true then XO a0 a1 a2 a3 a4 a5 a6 a7 a8 a9 true else if 2<a0.length then XO a0 a1 a2 a3 a4 a5 a6 a7 a8 a9 (!eqI ((a0.getD 2 default).Kind) 1) else none
noncomputable def Xz(a0:List Token)(a1:List Source)(a2 a3 a4:Int)(a5:List Macro)(a6 a7:List Int)(a8:Int)(a9:List Token):Option Yw :=
 if 1<a0.length then if(eqS ((a0.getD 1 default).Text) [105,102])=true then XP a0 a1 a2 a3 a4 a5 a6 a7 a8 a9 true else XP a0 a1 a2 a3 a4 a5 a6 a7 a8 a9 (eqS ((a0.getD 1 default).Text) [101,108,105,102]) else none
def Jkv(a0:List Token)(a1:List Source)(a2 a3 a4:Int)(a5:List Macro)(a6 a7:List Int)(a8:Int)(a9:List Token):GR YN (Bool×Int)→GOut
 | .ok r=>.ret (cB r.1) [[.d (.sl 2 (List.map Jg a1)),kI r.2,kI a3,kI a4,.d (.sl 5 (List.map Jf a5)),.sl 1 (List.map dI a6) 3,.os 2 11 0 a9.length,.sl 1 (List.map dI a7) 4,kI a8],[.arr 11 (List.map Ja a9)]] [3,3]
 | .er r=>.pan (.iface 78 (.agg ⟨[.int .i64 r.1,.int .i64 r.2.1,.int .i64 r.2.2.1]⟩)) [[.d (.sl 2 (List.map Jg a1)),kI r.2.2.2,kI a3,kI a4,.d (.sl 5 (List.map Jf a5)),.sl 1 (List.map dI a6) 3,.os 2 11 0 a9.length,.sl 1 (List.map dI a7) 4,kI a8],[.arr 11 (List.map Ja a9)]] [3,3]
def Jbt(a0:List Token)(a1:List Source)(a2 a3 a4:Int)(a5:List Macro)(a6 a7:List Int)(a8:Int)(a9:List Token)(r:GR YN (Bool×Int)):GI :=
 ⟨[.c (.pt 1 0),.c (.d (.sl 11 (List.map Ja a0)))],[[.d (.sl 2 (List.map Jg a1)),kI a2,kI a3,kI a4,.d (.sl 5 (List.map Jf a5)),.sl 1 (List.map dI a6) 3,.os 2 11 0 a9.length,.sl 1 (List.map dI a7) 4,kI a8],[.arr 11 (List.map Ja a9)]],[3,3],Jkv a0 a1 a2 a3 a4 a5 a6 a7 a8 a9 r⟩
def Jbk:GI→Prop:=Sg10 Xz Jbt
theorem JjI:∀ g,Jbk g→Jn Tryz.prog 55 g:=by
 rintro _ ⟨a0,a1,a2,a3,a4,a5,a6,a7,a8,a9,r,H,rfl⟩
 refine xGnl mixed [8,13] [] [(80,true,ZX),(54,false,XI),(79,true,Jhk),(33,false,JbZ),(81,true,X6)] [] trivial ⟨JcP,Vw,Jjl,JbO,Jbh,trivial⟩ trivial Tryz.func55 _ ?_
 have G:=True.intro
 have Y:=xZ y_3 <| xZ y_4 <| xZ y_9 <| xZ y_24 <| xZ y_29 <| xZ y_31 <| xZ y_44 <| xZ Tryz.results55 <| xZ Jg.eq_1 <| xZ Jm.eq_1 <| xZ Ja.eq_1 <| xZ Jf.eq_1 <| xZ KF.eq_1 <| xZ J3.eq_1 <| xZ ZZ.eq_1 <| xZ XM.eq_1 <| xZ Jhq.eq_1 <| xZ JbQ.eq_1 <| xZ X3.eq_1 <| Jbt.eq_1
 dsimp only[Jbt]
 simp only[Xz]at H
 refine xS ?_
 refine xr ?_
 obtain⟨g,H⟩:=Jc H
 have F:=xZ Y (Jh Ja a0 1 default default (by omega))
 refine xR0 ?_
 refine Jk ?_
 refine Jas ?_
 refine Jo (XP a0 a1 a2 a3 a4 a5 a6 a7 a8 a9) (fun s=>[(0,.c (.pt 1 0)),(1,.c (.d (.sl 11 (List.map Ja a0)))),(11,cB s)]) (fun s=>[[.d (.sl 2 (List.map Jg a1)),kI a2,kI a3,kI a4,.d (.sl 5 (List.map Jf a5)),.sl 1 (List.map dI a6) 3,.os 2 11 0 a9.length,.sl 1 (List.map dI a7) 4,kI a8],[.arr 11 (List.map Ja a9)]]) [3,3] r ?_ ?_
 ·refine xS ?_
  refine xr ?_
  rcases xB Y G H with⟨p,H,F,G,q⟩|⟨p,H,F,G,q⟩
  ·refine xT ?_
   exact Jb H (xK ⟨[1,2],[3,4]⟩)
  refine xE ?_
  refine xr ?_
  exact Jb H (xK ⟨[1,2],[3,4]⟩)
 rintro x1 H
 rw[XP]at H
 rcases xB Y G H with⟨p,H,F,G,q⟩|⟨p,H,F,G,q⟩
 ·refine xT ?_
  refine xr ?_
  rcases xB Y G H with⟨p,H,F,G,q⟩|⟨p,H,F,G,q⟩
  ·refine xT ?_
   obtain⟨g,H⟩:=Jc H
   have F:=xZ Y (Jh Ja a0 1 default default (by omega))
   cases H
  refine xE ?_
  obtain⟨g,H⟩:=Jc H
  obtain⟨r1,hr1,H⟩:=Jj H
  have F:=Y
  rcases Jae H with⟨r2,hr2,H⟩|⟨e1,hr3,H⟩
  ·have F:=F
   obtain⟨r3,hr4,H⟩:=Jj H
   have F:=F
   refine xQ ?_
   refine xs 4 ?_
   refine xc ⟨[1,2],[3,4]⟩ (tabG 0 (cg10 hr1)) ?_
   refine xc ⟨[1,2],[7,8]⟩ (tabG 1 (cg10 hr2)) ?_
   refine xc ⟨[],[]⟩ (tabG 2 (cg1 hr4)) ?_
   refine xs 6 ?_
   refine xl ?_
   refine  ?_
   refine Jk ?_
   refine Jo (Jau r2 r3) (fun s=>[(5,cI r3.1),(6,.c (.pt 3 0))]) (fun s=>[[.d (.sl 2 (List.map Jg a1)),kI r2.2,kI a3,kI a4,.d (.sl 5 (List.map Jf a5)),.sl 1 (List.map dI a6) 4,.os 2 11 0 a9.length,.sl 1 (List.map dI a7) 5,kI a8],[.arr 11 (List.map Ja a9)],[kI 0,kI s.1,kI s.2]]) [3,3] r ?_ ?_
   ·refine Jo (JaE a0 r2 r3) (fun s=>[(1,.c (.d (.sl 11 (List.map Ja a0)))),(5,cI r3.1),(6,.c (.pt 3 0)),(37,cB s)]) (fun s=>[[.d (.sl 2 (List.map Jg a1)),kI r2.2,kI a3,kI a4,.d (.sl 5 (List.map Jf a5)),.sl 1 (List.map dI a6) 4,.os 2 11 0 a9.length,.sl 1 (List.map dI a7) 5,kI a8],[.arr 11 (List.map Ja a9)],[kI 0,kI r3.2,kI 0]]) [3,3] r ?_ ?_
    ·rcases xB Y G H with⟨p,H,F,G,q⟩|⟨p,H,F,G,q⟩
     ·refine xR ?_
      exact Jb H (xK ⟨[1,2,13],[11,12]⟩)
     refine xR ?_
     exact Jb H (xK ⟨[1,2,13],[11,12]⟩)
    rintro x4 H
    rw[JaE]at H
    rcases xB Y G H with⟨p,H,F,G,q⟩|⟨p,H,F,G,q⟩
    ·refine xT ?_
     obtain⟨g,H⟩:=Jc H
     have F:=xZ Y (Jh Ja a0 1 default default (by omega))
     obtain⟨g,H⟩:=Jc H
     have F:=xZ F (Jh Ja a0 1 default default (by omega))
     refine xP [0,1,2,3,4,5,6,7,8,9,10,11] [45] ⟨JcP,Vw,Jjl,JbO,Jbh,trivial⟩ ?_
     refine xsX 7 ?_
     refine xaX ?_
     refine xsX 1 ?_
     refine xbX ?_
     refine xsX 1 ?_
     refine xbX ?_
     refine xlX ?_
     refine xS ?_
     exact Jb H (xK ⟨[1,2,3],[4,5]⟩)
    refine xE ?_
    exact Jb H (xK ⟨[1,2,3],[4,5]⟩)
   rintro ⟨x2,x3⟩ H
   rw[Jau]at H
   refine xS ?_
   rcases Jae H with⟨r4,hr5,H⟩|⟨e2,hr6,H⟩
   ·have F:=Y
    refine xQ ?_
    refine xs 1 ?_
    refine xc ⟨[],[]⟩ (tabG 3 (cg1 hr5)) ?_
    refine xl ?_
    refine xS ?_
    replace H:=oI H
    refine xr ?_
    subst H
    refine xrD [] ?_
    exact xO ⟨[1,2],[4,5]⟩
   have F:=Y
   refine xQp [48,49] ?_
   refine xs 1 ?_
   refine xp ⟨[],[]⟩ (tabG 3 (cg1 hr6)) ?_
   replace H:=oI H
   refine xS ?_
   subst H
   refine xpD [] ?_
   exact xOv ⟨[1,2],[4,5]⟩
  have F:=F
  refine xQp [21,22,23,24,25,26,27,20,28,29,6,5] ?_
  refine xs 4 ?_
  refine xc ⟨[1,2],[3,4]⟩ (tabG 0 (cg10 hr1)) ?_
  refine xp ⟨[1,2],[7,8]⟩ (tabG 1 (cg10 hr3)) ?_
  replace H:=oI H
  refine xS ?_
  subst H
  refine xpD [] ?_
  exact xOv ⟨[1,2],[11,12]⟩
 refine xE0 ?_
 refine V0 ?_
 refine JmZ ?_
 refine Jk ?_
 refine Kv ?_
 refine Jo (XO a0 a1 a2 a3 a4 a5 a6 a7 a8 a9) (fun s=>[(0,.c (.pt 1 0)),(1,.c (.d (.sl 11 (List.map Ja a0)))),(61,cB s)]) (fun s=>[[.d (.sl 2 (List.map Jg a1)),kI a2,kI a3,kI a4,.d (.sl 5 (List.map Jf a5)),.sl 1 (List.map dI a6) 3,.os 2 11 0 a9.length,.sl 1 (List.map dI a7) 4,kI a8],[.arr 11 (List.map Ja a9)]]) [3,3] r ?_ ?_
 ·rcases xB Y G H with⟨p,H,F,G,q⟩|⟨p,H,F,G,q⟩
  ·refine xR ?_
   exact Jb H (xK ⟨[1,2],[3,4]⟩)
  obtain⟨g,H⟩:=Jc H
  have F:=xZ F (Jh Ja a0 2 default default (by omega))
  refine xR ?_
  exact Jb H (xK ⟨[1,2],[3,4]⟩)
 rintro x5 H
 rw[XO]at H
 rcases xB Y G H with⟨p,H,F,G,q⟩|⟨p,H,F,G,q⟩
 ·refine xT ?_
  obtain⟨g,H⟩:=Jc H
  have F:=xZ Y (Jh Ja a0 1 default default (by omega))
  cases H
 refine xE ?_
 obtain⟨g,H⟩:=Jc H
 have F:=xZ Y (Jh Ja a0 2 default default (by omega))
 obtain⟨g,H⟩:=Jc H
 have F:=xZ F (Jh Ja a0 1 default default (by omega))
 obtain⟨r5,hr7,H⟩:=Jj H
 have F:=F
 refine xP [0,1,2,3,4,6,7,8,9,10,5,11,12] [74] ⟨JcP,Vw,Jjl,JbO,Jbh,trivial⟩ ?_
 refine xsX 8 ?_
 refine xaX ?_
 refine xsX 1 ?_
 refine xcX ⟨[1,2],[3,4]⟩ (tabG 4 (cg10 hr7)) ?_
 refine xsX 2 ?_
 refine xlX ?_
 replace H:=oI H
 refine xS ?_
 subst H
 refine xrD [] ?_
 exact xO ⟨[1,2],[7,8]⟩
theorem Jkh:Jd Tryz.prog 55∧(∀ g,Jbk g→Jn Tryz.prog 55 g)∧(false=true→∀ g,Jbk g→∃ val bs ts,g.out=.ret val bs ts) :=
 ⟨JEe,JjI,nofun⟩
noncomputable def JN(a1:List drive_group):(Nat×Int×Int)→Option ((Nat×Int×Int) ⊕ Int)
 | (x1,x2,x3)=>if(ltI x3 x2)=true then if(0:Int)≤x3∧x3.toNat<x1 then if x3.toNat<a1.length then(Jcc (a1.getD x3.toNat default)).bind fun r1=>if r1=true then inrO (some x3) else some (.inl (x1,x2,IntKind.i64.wrap (x3+1))) else none else none else inrO (some (-1))
noncomputable def JP(a0:Nat)(a1:List drive_group):Option Int :=
 Jt (JN a1) (a0,((a0:Nat):Int),0)
def J0(a0:Nat)(a1:List drive_group)(r:Int):GI :=
 ⟨[.c (.os 1 14 0 a0),.c (.d (.v (.func (.func 53) #[] #[])))],[[.arr 14 (List.map Jl a1)]],[],.ret (cI r) [[.arr 14 (List.map Jl a1)]] []⟩
def J2:GI→Prop:=Sg2 JP J0
theorem JbL:∀ g,J2 g→Jn Tryz.prog 77 g:=by
 rintro _ ⟨a0,a1,r,H,rfl⟩
 refine xGn mixed [(53,JfN)] [] [] ⟨⟨JEa,Joa⟩,trivial⟩ trivial trivial Tryz.func77 _ ?_
 have G:=True.intro
 have Y:=xZ y_80 <| xZ y_90 <| xZ Tryz.results77 <| xZ Jm.eq_1 <| xZ Ja.eq_1 <| xZ Jl.eq_1 <| J0.eq_1
 dsimp only[J0]
 simp only[JP]at H
 refine xS ?_
 refine xr ?_
 refine xr ?_
 refine JK (JN a1) (fun s=>[(0,.c (.os 1 14 0 s.1)),(1,.c (.d (.v (.func (.func 53) #[] #[])))),(7,cI s.2.1),(8,cI s.2.2)]) (fun s=>[[.arr 14 (List.map Jl a1)]]) [] H (xK ⟨[1],[]⟩) ?_
 rintro n1 ⟨x1,x2,x3⟩ o1 H hF1
 rw[JN]at H
 refine xS ?_
 refine xr ?_
 rcases xB Y G H with⟨p,H,F,G,q⟩|⟨p,H,F,G,q⟩
 ·refine xT ?_
  refine xr ?_
  obtain⟨g,H⟩:=Jc H
  obtain⟨g,H⟩:=Jc H
  have F:=xZ Y (Jh Jl a1 x3.toNat default default (by omega))
  obtain⟨r1,hr1,H⟩:=Jj H
  have F:=xCf F (JoD (a1.getD x3.toNat default) r1 hr1)
  refine xR ?_
  rcases xB Y G H with⟨p,H,F,G,q⟩|⟨p,H,F,G,q⟩
  ·refine xT ?_
   replace H:=Jq H hF1
   replace H:=oI H
   refine xr ?_
   subst H
   refine xrD [] ?_
   exact xO ⟨[1],[]⟩
  refine xE ?_
  refine xr ?_
  exact Jw (JA H hF1) (xK ⟨[1],[]⟩)
 replace H:=Jq H hF1
 refine xE ?_
 replace H:=oI H
 refine xr ?_
 subst H
 refine xrD [] ?_
 exact xO ⟨[1],[]⟩
theorem Jb7:Jd Tryz.prog 77∧(∀ g,J2 g→Jn Tryz.prog 77 g)∧(true=true→∀ g,J2 g→∃ val bs ts,g.out=.ret val bs ts) :=
 ⟨JDC,JbL,fun _=>by rintro _ ⟨_,_,_,_,rfl⟩; exact⟨_,_,_,rfl⟩⟩
noncomputable def JM(a0:Nat)(a1:List drive_group):Option Bool :=
 (JP a0 a1).bind fun r1=>some (leI 0 r1)
def JW(a0:Nat)(a1:List drive_group)(r:Bool):GI :=
 ⟨[.c (.os 1 14 0 a0),.c (.d (.v (.func (.func 53) #[] #[])))],[[.arr 14 (List.map Jl a1)]],[],.ret (cB r) [[.arr 14 (List.map Jl a1)]] []⟩
def JX:GI→Prop:=Sg2 JM JW
theorem Ja7:∀ g,JX g→Jn Tryz.prog 52 g:=by
 rintro _ ⟨a0,a1,r,H,rfl⟩
 refine xGn mixed [] [(77,true,J2)] [] trivial ⟨Jb7,trivial⟩ trivial Tryz.func52 _ ?_
 have G:=True.intro
 have Y:=xZ Tryz.results52 <| xZ Jm.eq_1 <| xZ Ja.eq_1 <| xZ Jl.eq_1 <| xZ J0.eq_1 <| JW.eq_1
 dsimp only[JW]
 simp only[JM]at H
 refine xS ?_
 refine xr ?_
 obtain⟨r1,hr1,H⟩:=Jj H
 have F:=Y
 refine xQ ?_
 refine xs 2 ?_
 refine xc ⟨[1],[]⟩ (tabG 0 (cg2 hr1)) ?_
 refine xs 2 ?_
 refine xl ?_
 replace H:=oI H
 refine xS ?_
 subst H
 refine xrD [] ?_
 exact xO ⟨[1],[]⟩
theorem Jbg:Jd Tryz.prog 52∧(∀ g,JX g→Jn Tryz.prog 52 g)∧(true=true→∀ g,JX g→∃ val bs ts,g.out=.ret val bs ts) :=
 ⟨JDS,Ja7,fun _=>by rintro _ ⟨_,_,_,_,rfl⟩; exact⟨_,_,_,rfl⟩⟩
noncomputable def J9(a0:Nat)(a1:List drive_group):Option Bool :=
 (JM a0 a1).bind fun r1=>some (!r1)
def JbT(a0:Nat)(a1:List drive_group)(r:Bool):GI :=
 ⟨[.c (.os 1 14 0 a0)],[[.arr 14 (List.map Jl a1)]],[],.ret (cB r) [[.arr 14 (List.map Jl a1)]] []⟩
def JbM:GI→Prop:=Sg2 J9 JbT
theorem JnK:∀ g,JbM g→Jn Tryz.prog 35 g:=by
 rintro _ ⟨a0,a1,r,H,rfl⟩
 refine xGn mixed [] [(52,true,JX)] [] trivial ⟨Jbg,trivial⟩ trivial Tryz.func35 _ ?_
 have G:=True.intro
 have Y:=xZ Tryz.results35 <| xZ Jm.eq_1 <| xZ Ja.eq_1 <| xZ Jl.eq_1 <| xZ JW.eq_1 <| JbT.eq_1
 dsimp only[JbT]
 simp only[J9]at H
 refine xS ?_
 refine xr ?_
 obtain⟨r1,hr1,H⟩:=Jj H
 have F:=Y
 refine xQ ?_
 refine xs 1 ?_
 refine xc ⟨[1],[]⟩ (tabG 0 (cg2 hr1)) ?_
 refine xs 2 ?_
 refine xl ?_
 replace H:=oI H
 refine xS ?_
 subst H
 refine xrD [] ?_
 exact xO ⟨[1],[]⟩
theorem Jh9:Jd Tryz.prog 35∧(∀ g,JbM g→Jn Tryz.prog 35 g)∧(true=true→∀ g,JbM g→∃ val bs ts,g.out=.ret val bs ts) :=
 ⟨JDt,JnK,fun _=>by rintro _ ⟨_,_,_,_,rfl⟩; exact⟨_,_,_,rfl⟩⟩
noncomputable def Vr(a10:List drive_group):(Nat×Int×Bool×Bool×Int×(List UInt8)×Bool×Bool×Int×Int×Int×Int×YX×(List Call)×Int)→Option Yk
 | (x5,x6,x7,x8,x9,x10,x11,x12,x13,x14,x15,x16,x17,x18,x19)=>if x5≤a10.length∧(x5 + [(⟨x7,x8,false,(⟨x9,x10,x11,x12,x13,x14,x15,x16,x17,x18,x19⟩:Token)⟩:drive_group)].length) * 128≤140737488355328 then some (.ok (x5 + [(⟨x7,x8,false,(⟨x9,x10,x11,x12,x13,x14,x15,x16,x17,x18,x19⟩:Token)⟩:drive_group)].length,true,x6,(List.take x5 a10)++[(⟨x7,x8,false,(⟨x9,x10,x11,x12,x13,x14,x15,x16,x17,x18,x19⟩:Token)⟩:drive_group)])) else none
noncomputable def XR(x2:List UInt8)(x20:Nat):(Nat×Int×Ya1)→Option Yk
 | (x24,x25,x26)=>if(IntKind.i64.wrap (((x20:Nat):Int)-1)).toNat<x26.length then some (.ok (x24,true,x25,List.set x26 ((IntKind.i64.wrap (((x20:Nat):Int)-1)).toNat) (⟨(x26.getD ((IntKind.i64.wrap (((x20:Nat):Int)-1)).toNat) default).on_,(x26.getD ((IntKind.i64.wrap (((x20:Nat):Int)-1)).toNat) default).had_,eqS x2 [101,108,115,101],((x26.getD ((IntKind.i64.wrap (((x20:Nat):Int)-1)).toNat) default).at_)⟩:drive_group))) else none
noncomputable def Vs(x2:List UInt8)(x20:Nat):Yx→Option Yk
 | (x27,x28,x29,x30)=>if x28=true then if(IntKind.i64.wrap (((x20:Nat):Int)-1)).toNat<x30.length then if(IntKind.i64.wrap (((x20:Nat):Int)-1)).toNat<x30.length then XR x2 x20 (x27,x29,List.set x30 ((IntKind.i64.wrap (((x20:Nat):Int)-1)).toNat) (⟨true,true,(x30.getD ((IntKind.i64.wrap (((x20:Nat):Int)-1)).toNat) default).last_,((x30.getD ((IntKind.i64.wrap (((x20:Nat):Int)-1)).toNat) default).at_)⟩:drive_group)) else none else none else XR x2 x20 (x27,x29,x30)
noncomputable def XS(a1:List Token)(a2:List Source)(a3 a4 a5:Int)(a6:List Macro)(a7 a8:List Int)(a9:Int)(a10:List drive_group)(a11:List Token)(x2:List UInt8)(x20:Nat):(Nat×Bool)→Option Yk
 | (x22,x23)=>if x23=true then if 2<a1.length then none else none else if(IntKind.i64.wrap (((x20:Nat):Int)-1)).toNat<a10.length then if(IntKind.i64.wrap (((x20:Nat):Int)-1)).toNat<a10.length then if(!((a10.getD ((IntKind.i64.wrap (((x20:Nat):Int)-1)).toNat) default).had_))=true then if(eqS x2 [101,108,115,101])=true then Vs x2 x20 (x22,true,a3,List.set a10 ((IntKind.i64.wrap (((x20:Nat):Int)-1)).toNat) (⟨false,(a10.getD ((IntKind.i64.wrap (((x20:Nat):Int)-1)).toNat) default).had_,(a10.getD ((IntKind.i64.wrap (((x20:Nat):Int)-1)).toNat) default).last_,((a10.getD ((IntKind.i64.wrap (((x20:Nat):Int)-1)).toNat) default).at_)⟩:drive_group)) else grB (Xz a1 a2 a3 a4 a5 a6 a7 a8 a9 a11) (fun r3=>Vs x2 x20 (x22,r3.1,r3.2,List.set a10 ((IntKind.i64.wrap (((x20:Nat):Int)-1)).toNat) (⟨false,(a10.getD ((IntKind.i64.wrap (((x20:Nat):Int)-1)).toNat) default).had_,(a10.getD ((IntKind.i64.wrap (((x20:Nat):Int)-1)).toNat) default).last_,((a10.getD ((IntKind.i64.wrap (((x20:Nat):Int)-1)).toNat) default).at_)⟩:drive_group))) (fun e2=>some (.er (e2.1,e2.2.1,e2.2.2.1,e2.2.2.2))) else Vs x2 x20 (x22,false,a3,List.set a10 ((IntKind.i64.wrap (((x20:Nat):Int)-1)).toNat) (⟨false,(a10.getD ((IntKind.i64.wrap (((x20:Nat):Int)-1)).toNat) default).had_,(a10.getD ((IntKind.i64.wrap (((x20:Nat):Int)-1)).toNat) default).last_,((a10.getD ((IntKind.i64.wrap (((x20:Nat):Int)-1)).toNat) default).at_)⟩:drive_group)) else none else none
noncomputable def Kj(a1:List Token)(a2:List Source)(a3 a4 a5:Int)(a6:List Macro)(a7 a8:List Int)(a9:Int)(a10:List drive_group)(a11:List Token)(x2:List UInt8):(Nat×Bool)→Option Yk
 | (x20,x21)=>if x21=true then if(eqI ((x20:Nat):Int) 0)=true then if 1<a1.length then none else none else if(0:Int)≤(IntKind.i64.wrap (((x20:Nat):Int)-1))∧(IntKind.i64.wrap (((x20:Nat):Int)-1)).toNat<x20 then if(eqS x2 [101,110,100,105,102])=true then if(ltI 2 (a1.length:Int))=true then if 2<a1.length then none else none else if(0:Int)≤0∧0≤(IntKind.i64.wrap (((x20:Nat):Int)-1))∧(IntKind.i64.wrap (((x20:Nat):Int)-1))≤((x20:Nat):Int) then some (.ok ((IntKind.i64.wrap (((x20:Nat):Int)-1)).toNat,true,a3,a10)) else none else if(IntKind.i64.wrap (((x20:Nat):Int)-1)).toNat<a10.length then if((a10.getD ((IntKind.i64.wrap (((x20:Nat):Int)-1)).toNat) default).last_)=true then if 1<a1.length then none else none else if(eqS x2 [101,108,115,101])=true then XS a1 a2 a3 a4 a5 a6 a7 a8 a9 a10 a11 x2 x20 (x20,ltI 2 (a1.length:Int)) else XS a1 a2 a3 a4 a5 a6 a7 a8 a9 a10 a11 x2 x20 (x20,false) else none else none else some (.ok (x20,false,a3,a10))
noncomputable def J5(a1:List Token)(a2:List Source)(a3 a4 a5:Int)(a6:List Macro)(a7 a8:List Int)(a9:Int)(a10:List drive_group)(a11:List Token):(Nat×(List UInt8)×(List UInt8)×Bool)→Option Yk
 | (x1,x2,x3,x4)=>if x4=true then if(eqI ((x1:Nat):Int) 12)=true then if 1<a1.length then none else none else if 1<a1.length then(J9 x1 a10).bind fun r1=>if r1=true then grB (Xz a1 a2 a3 a4 a5 a6 a7 a8 a9 a11) (fun r2=>Vr a10 (x1,r2.2,r2.1,r2.1,(a1.getD 1 default).Kind,(a1.getD 1 default).Text,(a1.getD 1 default).Space,(a1.getD 1 default).First,(a1.getD 1 default).File,(a1.getD 1 default).At,(a1.getD 1 default).End,(a1.getD 1 default).Line,(a1.getD 1 default).Hide,(a1.getD 1 default).Calls,(a1.getD 1 default).Made)) (fun e1=>some (.er (e1.1,e1.2.1,e1.2.2.1,e1.2.2.2))) else Vr a10 (x1,a3,false,true,(a1.getD 1 default).Kind,(a1.getD 1 default).Text,(a1.getD 1 default).Space,(a1.getD 1 default).First,(a1.getD 1 default).File,(a1.getD 1 default).At,(a1.getD 1 default).End,(a1.getD 1 default).Line,(a1.getD 1 default).Hide,(a1.getD 1 default).Calls,(a1.getD 1 default).Made) else none else if(eqS x3 [101,108,105,102])=true then Kj a1 a2 a3 a4 a5 a6 a7 a8 a9 a10 a11 x2 (x1,true) else if(eqS x3 [101,108,115,101])=true then Kj a1 a2 a3 a4 a5 a6 a7 a8 a9 a10 a11 x2 (x1,true) else Kj a1 a2 a3 a4 a5 a6 a7 a8 a9 a10 a11 x2 (x1,eqS x3 [101,110,100,105,102])
noncomputable def JH(a0:Nat)(a1:List Token)(a2:List Source)(a3 a4 a5:Int)(a6:List Macro)(a7 a8:List Int)(a9:Int)(a10:List drive_group)(a11:List Token):Option Yk :=
 if 1<a1.length then if(eqS ((a1.getD 1 default).Text) [105,102])=true then J5 a1 a2 a3 a4 a5 a6 a7 a8 a9 a10 a11 (a0,(a1.getD 1 default).Text,(a1.getD 1 default).Text,true) else if(eqS ((a1.getD 1 default).Text) [105,102,100,101,102])=true then J5 a1 a2 a3 a4 a5 a6 a7 a8 a9 a10 a11 (a0,(a1.getD 1 default).Text,(a1.getD 1 default).Text,true) else J5 a1 a2 a3 a4 a5 a6 a7 a8 a9 a10 a11 (a0,(a1.getD 1 default).Text,(a1.getD 1 default).Text,eqS ((a1.getD 1 default).Text) [105,102,110,100,101,102]) else none
def Jio(a0:Nat)(a1:List Token)(a2:List Source)(a3 a4 a5:Int)(a6:List Macro)(a7 a8:List Int)(a9:Int)(a10:List drive_group)(a11:List Token):GR YN Yx→GOut
 | .ok r=>.ret (.tu [(false,[.os 4 14 0 r.1]),(false,[kB r.2.1])]) [[.d (.sl 2 (List.map Jg a2)),kI r.2.2.1,kI a4,kI a5,.d (.sl 5 (List.map Jf a6)),.sl 1 (List.map dI a7) 6,.os 5 11 0 a11.length,.sl 1 (List.map dI a8) 7,kI a9],[],[],[.arr 14 (List.map Jl r.2.2.2)],[.arr 11 (List.map Ja a11)]] [3,3]
 | .er r=>.pan (.iface 78 (.agg ⟨[.int .i64 r.1,.int .i64 r.2.1,.int .i64 r.2.2.1]⟩)) [[.d (.sl 2 (List.map Jg a2)),kI r.2.2.2,kI a4,kI a5,.d (.sl 5 (List.map Jf a6)),.sl 1 (List.map dI a7) 5,.os 4 11 0 a11.length,.sl 1 (List.map dI a8) 6,kI a9],[],[],[.arr 11 (List.map Ja a11)]] [3,3]
def XW(a0:Nat)(a1:List Token)(a2:List Source)(a3 a4 a5:Int)(a6:List Macro)(a7 a8:List Int)(a9:Int)(a10:List drive_group)(a11:List Token)(r:GR YN Yx):GI :=
 ⟨[.c (.pt 1 0),.c (.os 2 14 0 a0),.c (.d (.sl 11 (List.map Ja a1)))],[[.d (.sl 2 (List.map Jg a2)),kI a3,kI a4,kI a5,.d (.sl 5 (List.map Jf a6)),.sl 1 (List.map dI a7) 4,.os 3 11 0 a11.length,.sl 1 (List.map dI a8) 5,kI a9],[.arr 14 (List.map Jl a10)],[.arr 11 (List.map Ja a11)]],[3,3],Jio a0 a1 a2 a3 a4 a5 a6 a7 a8 a9 a10 a11 r⟩
def XX:GI→Prop:=Sg12 JH XW
theorem Jh2:∀ g,XX g→Jn Tryz.prog 37 g:=by
 rintro _ ⟨a0,a1,a2,a3,a4,a5,a6,a7,a8,a9,a10,a11,r,H,rfl⟩
 refine xGn mixed [] [(35,true,JbM),(55,false,Jbk)] [] trivial ⟨Jh9,Jkh,trivial⟩ trivial Tryz.func37 _ ?_
 have G:=True.intro
 have Y:=xZ y_4 <| xZ y_9 <| xZ y_24 <| xZ y_44 <| xZ y_80 <| xZ y_90 <| xZ Tryz.results37 <| xZ Jg.eq_1 <| xZ Jm.eq_1 <| xZ Ja.eq_1 <| xZ Jf.eq_1 <| xZ KF.eq_1 <| xZ Jl.eq_1 <| xZ JbT.eq_1 <| xZ Jbt.eq_1 <| XW.eq_1
 dsimp only[XW]
 simp only[JH]at H
 refine xS ?_
 refine xrn 2 1 ?_
 refine xrn 3 1 ?_
 refine xr ?_
 obtain⟨g,H⟩:=Jc H
 have F:=xZ Y (Jh Ja a1 1 default default (by omega))
 refine xR ?_
 refine xr0 ?_
 refine Jk ?_
 refine Jas ?_
 refine Jo (J5 a1 a2 a3 a4 a5 a6 a7 a8 a9 a10 a11) (fun s=>[(0,.c (.pt 1 0)),(1,.c (.os 4 14 0 s.1)),(2,.c (.d (.sl 11 (List.map Ja a1)))),(8,cS s.2.1),(15,cS s.2.2.1),(17,cB s.2.2.2)]) (fun s=>[[.d (.sl 2 (List.map Jg a2)),kI a3,kI a4,kI a5,.d (.sl 5 (List.map Jf a6)),.sl 1 (List.map dI a7) 6,.os 5 11 0 a11.length,.sl 1 (List.map dI a8) 7,kI a9],[],[],[.arr 14 (List.map Jl a10)],[.arr 11 (List.map Ja a11)]]) [3,3] r ?_ ?_
 ·refine xS ?_
  refine xr ?_
  rcases xB Y G H with⟨p,H,F,G,q⟩|⟨p,H,F,G,q⟩
  ·refine xT ?_
   exact Jb H (xK ⟨[1,2,3,6,7],[4,5]⟩)
  refine xE ?_
  refine xr ?_
  rcases xB Y G H with⟨p,H,F,G,q⟩|⟨p,H,F,G,q⟩
  ·refine xT ?_
   exact Jb H (xK ⟨[1,2,3,6,7],[4,5]⟩)
  refine xE ?_
  refine xr ?_
  exact Jb H (xK ⟨[1,2,3,6,7],[4,5]⟩)
 rintro ⟨x1,x2,x3,x4⟩ H
 rw[J5]at H
 rcases xB Y G H with⟨p,H,F,G,q⟩|⟨p,H,F,G,q⟩
 ·refine xT ?_
  refine xr ?_
  rcases xB Y G H with⟨p,H,F,G,q⟩|⟨p,H,F,G,q⟩
  ·refine xT ?_
   obtain⟨g,H⟩:=Jc H
   have F:=xZ Y (Jh Ja a1 1 default default (by omega))
   cases H
  refine xE ?_
  obtain⟨g,H⟩:=Jc H
  have F:=xZ Y (Jh Ja a1 1 default default (by omega))
  refine xR0 ?_
  refine Jk ?_
  refine Jo (Vr a10) (fun s=>[(1,.c (.os 4 14 0 s.1)),(9,.c (.pt 5 0))]) (fun s=>[[.d (.sl 2 (List.map Jg a2)),kI s.2.1,kI a4,kI a5,.d (.sl 5 (List.map Jf a6)),.sl 1 (List.map dI a7) 7,.os 6 11 0 a11.length,.sl 1 (List.map dI a8) 8,kI a9],[],[],[.arr 14 (List.map Jl a10)],[kB s.2.2.1,kB s.2.2.2.1,kB false,kI s.2.2.2.2.1,kS s.2.2.2.2.2.1,kB s.2.2.2.2.2.2.1,kB s.2.2.2.2.2.2.2.1,kI s.2.2.2.2.2.2.2.2.1,kI s.2.2.2.2.2.2.2.2.2.1,kI s.2.2.2.2.2.2.2.2.2.2.1,kI s.2.2.2.2.2.2.2.2.2.2.2.1,.d (.sl 1 (List.map dS s.2.2.2.2.2.2.2.2.2.2.2.2.1)),.d (.sl 3 (List.map Jm s.2.2.2.2.2.2.2.2.2.2.2.2.2.1)),kI s.2.2.2.2.2.2.2.2.2.2.2.2.2.2],[.arr 11 (List.map Ja a11)]]) [3,3] r ?_ ?_
  ·refine xS ?_
   obtain⟨r1,hr1,H⟩:=Jj H
   have F:=Y
   refine xQ ?_
   refine xs 1 ?_
   refine xc ⟨[4],[]⟩ (tabG 0 (cg2 hr1)) ?_
   refine xl ?_
   refine xS ?_
   rcases xB Y G H with⟨p,H,F,G,q⟩|⟨p,H,F,G,q⟩
   ·refine xT ?_
    rcases Jae H with⟨r2,hr2,H⟩|⟨e1,hr3,H⟩
    ·have F:=Y
     refine xQ ?_
     refine xs 2 ?_
     refine xc ⟨[1,5],[6,7]⟩ (tabG 1 (cg10 hr2)) ?_
     refine xs 2 ?_
     refine xl ?_
     refine xS ?_
     refine xr ?_
     exact Jb H (xK ⟨[1,2,3,4,8,5],[12,13]⟩)
    have F:=Y
    refine xQp [33,34,35,36] ?_
    refine xs 2 ?_
    refine xp ⟨[1,5],[6,7]⟩ (tabG 1 (cg10 hr3)) ?_
    replace H:=oI H
    refine xS ?_
    subst H
    refine xpD [] ?_
    exact xOv ⟨[1,2,3,5],[12,13]⟩
   refine xE ?_
   exact Jb H (xK ⟨[1,2,3,4,8,5],[6,7]⟩)
  rintro ⟨x5,x6,x7,x8,x9,x10,x11,x12,x13,x14,x15,x16,x17,x18,x19⟩ H
  rw[Vr]at H
  refine xS ?_
  obtain⟨g,H⟩:=Jc H
  have F:=xZ Y (JO JpU [(⟨x7,x8,false,(⟨x9,x10,x11,x12,x13,x14,x15,x16,x17,x18,x19⟩:Token)⟩:drive_group)])
  have T:=JfU a10 x5 (by omega)
  have F:=xZ F (Nat.min_eq_left (show x5≤a10.length by omega))
  have G:=xZ G (Nat.min_eq_left (show x5≤a10.length by omega))
  have F:=xZ F (Jdu Jl T)
  have G:=xZ G (Jdu Jl T)
  have L:[(⟨x7,x8,false,(⟨x9,x10,x11,x12,x13,x14,x15,x16,x17,x18,x19⟩:Token)⟩:drive_group)].length=1:=rfl
  replace H:=oI H
  refine xR ?_
  subst H
  refine xrD [] ?_
  exact xO ⟨[1,2,3,9,6],[7,8]⟩
 refine xE0 ?_
 refine Jo (Kj a1 a2 a3 a4 a5 a6 a7 a8 a9 a10 a11 x2) (fun s=>[(0,.c (.pt 1 0)),(1,.c (.os 4 14 0 s.1)),(2,.c (.d (.sl 11 (List.map Ja a1)))),(8,cS x2),(44,cB s.2)]) (fun s=>[[.d (.sl 2 (List.map Jg a2)),kI a3,kI a4,kI a5,.d (.sl 5 (List.map Jf a6)),.sl 1 (List.map dI a7) 6,.os 5 11 0 a11.length,.sl 1 (List.map dI a8) 7,kI a9],[],[],[.arr 14 (List.map Jl a10)],[.arr 11 (List.map Ja a11)]]) [3,3] r ?_ ?_
 ·refine xS ?_
  refine xr ?_
  rcases xB Y G H with⟨p,H,F,G,q⟩|⟨p,H,F,G,q⟩
  ·refine xT ?_
   exact Jb H (xK ⟨[1,2,3,4,5],[6,7]⟩)
  refine xE ?_
  refine xr ?_
  rcases xB Y G H with⟨p,H,F,G,q⟩|⟨p,H,F,G,q⟩
  ·refine xT ?_
   exact Jb H (xK ⟨[1,2,3,4,5],[6,7]⟩)
  refine xE ?_
  refine xr ?_
  exact Jb H (xK ⟨[1,2,3,4,5],[6,7]⟩)
 rintro ⟨x20,x21⟩ H
 rw[Kj]at H
 rcases xB Y G H with⟨p,H,F,G,q⟩|⟨p,H,F,G,q⟩
 ·refine xT ?_
  refine xr ?_
  rcases xB Y G H with⟨p,H,F,G,q⟩|⟨p,H,F,G,q⟩
  ·refine xT ?_
   obtain⟨g,H⟩:=Jc H
   have F:=xZ Y (Jh Ja a1 1 default default (by omega))
   cases H
  refine xE ?_
  obtain⟨g,H⟩:=Jc H
  refine xr ?_
  refine xr ?_
  rcases xB Y G H with⟨p,H,F,G,q⟩|⟨p,H,F,G,q⟩
  ·refine xT ?_
   refine xr ?_
   rcases xB Y G H with⟨p,H,F,G,q⟩|⟨p,H,F,G,q⟩
   ·refine xT ?_
    obtain⟨g,H⟩:=Jc H
    have F:=xZ Y (Jh Ja a1 2 default default (by omega))
    cases H
   refine xE ?_
   obtain⟨g,H⟩:=Jc H
   replace H:=oI H
   refine xr ?_
   subst H
   refine xrD [] ?_
   exact xO ⟨[1,2,3,4,5],[6,7]⟩
  refine xE ?_
  obtain⟨g,H⟩:=Jc H
  have F:=xZ Y (Jh Jl a10 ((IntKind.i64.wrap (((x20:Nat):Int)-1)).toNat) default default (by omega))
  refine xR ?_
  rcases xB Y G H with⟨p,H,F,G,q⟩|⟨p,H,F,G,q⟩
  ·refine xT ?_
   obtain⟨g,H⟩:=Jc H
   have F:=xZ Y (Jh Ja a1 1 default default (by omega))
   cases H
  refine xE0 ?_
  refine Jo (XS a1 a2 a3 a4 a5 a6 a7 a8 a9 a10 a11 x2 x20) (fun s=>[(0,.c (.pt 1 0)),(1,.c (.os 4 14 0 s.1)),(2,.c (.d (.sl 11 (List.map Ja a1)))),(8,cS x2),(10,.c (.pa 4 14 ((IntKind.i64.wrap (((x20:Nat):Int)-1)).toNat) 0)),(81,cB s.2)]) (fun s=>[[.d (.sl 2 (List.map Jg a2)),kI a3,kI a4,kI a5,.d (.sl 5 (List.map Jf a6)),.sl 1 (List.map dI a7) 6,.os 5 11 0 a11.length,.sl 1 (List.map dI a8) 7,kI a9],[],[],[.arr 14 (List.map Jl a10)],[.arr 11 (List.map Ja a11)]]) [3,3] r ?_ ?_
  ·rcases xB Y G H with⟨p,H,F,G,q⟩|⟨p,H,F,G,q⟩
   ·refine xR ?_
    exact Jb H (xK ⟨[1,2,3,4,5],[6,7]⟩)
   refine xR ?_
   exact Jb H (xK ⟨[1,2,3,4,5],[6,7]⟩)
  rintro ⟨x22,x23⟩ H
  rw[XS]at H
  rcases xB Y G H with⟨p,H,F,G,q⟩|⟨p,H,F,G,q⟩
  ·refine xT ?_
   obtain⟨g,H⟩:=Jc H
   have F:=xZ Y (Jh Ja a1 2 default default (by omega))
   cases H
  refine xE ?_
  obtain⟨g,H⟩:=Jc H
  have F:=xZ Y (Jh Jl a10 ((IntKind.i64.wrap (((x20:Nat):Int)-1)).toNat) default default (by omega))
  have F:=xZ F (Je2 Jl a10 ((IntKind.i64.wrap (((x20:Nat):Int)-1)).toNat))
  have F:=xZ F (Je8 Jl a10 (show(IntKind.i64.wrap (((x20:Nat):Int)-1)).toNat<a10.length by omega))
  have F:=xZ F (JeO Jl a10 ((IntKind.i64.wrap (((x20:Nat):Int)-1)).toNat))
  refine xR0 ?_
  refine Jk ?_
  refine Jo (XR x2 x20) (fun s=>[(1,.c (.os 4 14 0 s.1)),(8,cS x2),(10,.c (.pa 4 14 ((IntKind.i64.wrap (((x20:Nat):Int)-1)).toNat) 0))]) (fun s=>[[.d (.sl 2 (List.map Jg a2)),kI s.2.1,kI a4,kI a5,.d (.sl 5 (List.map Jf a6)),.sl 1 (List.map dI a7) 6,.os 5 11 0 a11.length,.sl 1 (List.map dI a8) 7,kI a9],[],[],[.arr 14 (List.map Jl s.2.2)],[.arr 11 (List.map Ja a11)]]) [3,3] r ?_ ?_
  ·refine Jo (Vs x2 x20) (fun s=>[(1,.c (.os 4 14 0 s.1)),(8,cS x2),(10,.c (.pa 4 14 ((IntKind.i64.wrap (((x20:Nat):Int)-1)).toNat) 0)),(108,cB s.2.1)]) (fun s=>[[.d (.sl 2 (List.map Jg a2)),kI s.2.2.1,kI a4,kI a5,.d (.sl 5 (List.map Jf a6)),.sl 1 (List.map dI a7) 6,.os 5 11 0 a11.length,.sl 1 (List.map dI a8) 7,kI a9],[],[],[.arr 14 (List.map Jl s.2.2.2)],[.arr 11 (List.map Ja a11)]]) [3,3] r ?_ ?_
   ·obtain⟨g,H⟩:=Jc H
    have F:=xZ Y (Jh Jl a10 ((IntKind.i64.wrap (((x20:Nat):Int)-1)).toNat) default default (by omega))
    have F:=xZ F (Je2 Jl a10 ((IntKind.i64.wrap (((x20:Nat):Int)-1)).toNat))
    have F:=xZ F (Je8 Jl a10 (show(IntKind.i64.wrap (((x20:Nat):Int)-1)).toNat<a10.length by omega))
    have F:=xZ F (JeO Jl a10 ((IntKind.i64.wrap (((x20:Nat):Int)-1)).toNat))
    rcases xB F G H with⟨p,H,F,G,q⟩|⟨p,H,F,G,q⟩
    ·rcases xB F G H with⟨p,H,F,G,q⟩|⟨p,H,F,G,q⟩
     ·refine xR ?_
      exact Jb H (xK ⟨[1,2,3,4,5],[6,7]⟩)
     rcases Jae H with⟨r3,hr4,H⟩|⟨e2,hr5,H⟩
     ·have F:=F
      refine xQ ?_
      refine xs 11 ?_
      refine xc ⟨[1,5],[6,7]⟩ (tabG 1 (cg10 hr4)) ?_
      refine xs 2 ?_
      refine xl ?_
      refine xS ?_
      exact Jb H (xK ⟨[1,2,3,4,5],[10,11]⟩)
     have F:=F
     refine xQp [95,96,97,98,99,100,101,102,103,104,105,106,107,108] ?_
     refine xs 11 ?_
     refine xp ⟨[1,5],[6,7]⟩ (tabG 1 (cg10 hr5)) ?_
     replace H:=oI H
     refine xS ?_
     subst H
     refine xpD [] ?_
     exact xOv ⟨[1,2,3,5],[10,11]⟩
    refine xR ?_
    exact Jb H (xK ⟨[1,2,3,4,5],[6,7]⟩)
   rintro ⟨x27,x28,x29,x30⟩ H
   rw[Vs]at H
   rcases xB Y G H with⟨p,H,F,G,q⟩|⟨p,H,F,G,q⟩
   ·refine xT ?_
    obtain⟨g,H⟩:=Jc H
    have F:=xZ Y (Jh Jl x30 ((IntKind.i64.wrap (((x20:Nat):Int)-1)).toNat) default default (by omega))
    have F:=xZ F (Je2 Jl x30 ((IntKind.i64.wrap (((x20:Nat):Int)-1)).toNat))
    have F:=xZ F (Je8 Jl x30 (show(IntKind.i64.wrap (((x20:Nat):Int)-1)).toNat<x30.length by omega))
    have F:=xZ F (JeO Jl x30 ((IntKind.i64.wrap (((x20:Nat):Int)-1)).toNat))
    obtain⟨g,H⟩:=Jc H
    have F:=xZ F (Jh Jl x30 ((IntKind.i64.wrap (((x20:Nat):Int)-1)).toNat) default default (by omega))
    have F:=xZ F (Je2 Jl x30 ((IntKind.i64.wrap (((x20:Nat):Int)-1)).toNat))
    have F:=xZ F (Je8 Jl x30 (show(IntKind.i64.wrap (((x20:Nat):Int)-1)).toNat<x30.length by omega))
    have F:=xZ F (JeO Jl x30 ((IntKind.i64.wrap (((x20:Nat):Int)-1)).toNat))
    refine xR ?_
    exact Jb H (xK ⟨[1,2,3,4,5],[6,7]⟩)
   refine xE ?_
   exact Jb H (xK ⟨[1,2,3,4,5],[6,7]⟩)
  rintro ⟨x24,x25,x26⟩ H
  rw[XR]at H
  refine xS ?_
  obtain⟨g,H⟩:=Jc H
  have F:=xZ Y (Jh Jl x26 ((IntKind.i64.wrap (((x20:Nat):Int)-1)).toNat) default default (by omega))
  have F:=xZ F (Je2 Jl x26 ((IntKind.i64.wrap (((x20:Nat):Int)-1)).toNat))
  have F:=xZ F (Je8 Jl x26 (show(IntKind.i64.wrap (((x20:Nat):Int)-1)).toNat<x26.length by omega))
  have F:=xZ F (JeO Jl x26 ((IntKind.i64.wrap (((x20:Nat):Int)-1)).toNat))
  refine xR ?_
  replace H:=oI H
  refine xr ?_
  subst H
  refine xrD [] ?_
  exact xO ⟨[1,2,3,4,5],[6,7]⟩
 refine xE ?_
 replace H:=oI H
 refine xr ?_
 subst H
 refine xrD [] ?_
 exact xO ⟨[1,2,3,4,5],[6,7]⟩
theorem Jiu:Jd Tryz.prog 37∧(∀ g,XX g→Jn Tryz.prog 37 g)∧(false=true→∀ g,XX g→∃ val bs ts,g.out=.ret val bs ts) :=
 ⟨JEt,Jh2,nofun⟩
noncomputable def ZR:Bool→Option Bool
 | x1=>some x1
noncomputable def Xj(a0:List UInt8):Option Bool :=
 if(eqS a0 [95,95,76,73,78,69,95,95])=true then ZR true else if(eqS a0 [95,95,70,73,76,69,95,95])=true then ZR true else ZR (eqS a0 [100,101,102,105,110,101,100])
noncomputable def JdB:PF:=PF.of (E1 dS) (fun a=>Xj a) dB
theorem Jie:JC Tryz.prog 58 JdB:=by
 refine xF mixed [] [] trivial trivial Tryz.func58 ?_
 rintro a0 out H
 have G:=True.intro
 have Y:=Tryz.results58
 simp only[Xj]at H
 refine xS ?_
 refine xr0 ?_
 refine Jk ?_
 refine Jo ZR (fun s=>[(2,cB s)]) (fun s=>[]) [] out ?_ ?_
 ·rcases xB Y G H with⟨p,H,F,G,q⟩|⟨p,H,F,G,q⟩
  ·refine xR ?_
   exact Jb H (xK ⟨[],[]⟩)
  rcases xB F G H with⟨p,H,F,G,q⟩|⟨p,H,F,G,q⟩
  ·refine xR ?_
   exact Jb H (xK ⟨[],[]⟩)
  refine xR ?_
  exact Jb H (xK ⟨[],[]⟩)
 rintro x1 H
 rw[ZR]at H
 replace H:=oI H
 refine xS ?_
 subst H
 exact xN
theorem Jjb(a0:List UInt8)(r:Bool)(H:Xj a0=some r):PC JdB [dS a0] (dB r):=PF.c (a:=a0) H
noncomputable def JfI(x1 x2:Int):Unit→Option YW
 | ()=>some (.inl (x1,IntKind.i64.wrap (x2+1)))
noncomputable def JfD(x1 x2:Int):Bool→Option YW
 | x3=>if x3=true then none else JfI x1 x2 ()
noncomputable def Jd1(x1 x2:Int):Bool→Option YW
 | x16=>if x16=true then none else JfI x1 x2 ()
noncomputable def JdX(a1:Bool)(a4:List Token)(x1 x2:Int):Ye→Option YW
 | (x4,x5,x6,x7,x8,x9,x10,x11,x12,x13,x14,x15)=>if x4=true then none else if(eqS x6 [35])=true then if a1=true then if(eqI x2 (IntKind.i64.wrap (((a4.length:Nat):Int)-1)))=true then Jd1 x1 x2 true else if(0:Int)≤(IntKind.i64.wrap (x2+1))∧(IntKind.i64.wrap (x2+1)).toNat<a4.length then if(IntKind.i64.wrap (x2+1)).toNat<a4.length then none else none else none else Jd1 x1 x2 false else Jd1 x1 x2 false
noncomputable def JhG(a1 a3:Bool)(a4:List Token):(Int×Int)→Option YW
 | (x1,x2)=>if(ltI x2 x1)=true then if(0:Int)≤x2∧x2.toNat<a4.length then if x2.toNat<a4.length then if(!eqI ((a4.getD x2.toNat default).Kind) 5)=true then if(eqS ((a4.getD x2.toNat default).Text) [95,95,86,65,95,65,82,71,83,95,95])=true then JfD x1 x2 (!a3) else JfD x1 x2 false else if(eqS ((a4.getD x2.toNat default).Text) [35,35])=true then if(eqI x2 0)=true then JdX a1 a4 x1 x2 (true,(a4.getD x2.toNat default).Kind,(a4.getD x2.toNat default).Text,(a4.getD x2.toNat default).Space,(a4.getD x2.toNat default).First,(a4.getD x2.toNat default).File,(a4.getD x2.toNat default).At,(a4.getD x2.toNat default).End,(a4.getD x2.toNat default).Line,(a4.getD x2.toNat default).Hide,(a4.getD x2.toNat default).Calls,(a4.getD x2.toNat default).Made) else JdX a1 a4 x1 x2 (eqI x2 (IntKind.i64.wrap (((a4.length:Nat):Int)-1)),(a4.getD x2.toNat default).Kind,(a4.getD x2.toNat default).Text,(a4.getD x2.toNat default).Space,(a4.getD x2.toNat default).First,(a4.getD x2.toNat default).File,(a4.getD x2.toNat default).At,(a4.getD x2.toNat default).End,(a4.getD x2.toNat default).Line,(a4.getD x2.toNat default).Hide,(a4.getD x2.toNat default).Calls,(a4.getD x2.toNat default).Made) else JdX a1 a4 x1 x2 (false,(a4.getD x2.toNat default).Kind,(a4.getD x2.toNat default).Text,(a4.getD x2.toNat default).Space,(a4.getD x2.toNat default).First,(a4.getD x2.toNat default).File,(a4.getD x2.toNat default).At,(a4.getD x2.toNat default).End,(a4.getD x2.toNat default).Line,(a4.getD x2.toNat default).Hide,(a4.getD x2.toNat default).Calls,(a4.getD x2.toNat default).Made) else none else none else inrO (some ())
noncomputable def Jgs(a0:List UInt8)(a1:Bool)(a2:List (List UInt8))(a3:Bool)(a4:List Token):Option Unit :=
 Jt (JhG a1 a3 a4) (((a4.length:Nat):Int),0)
def JgM(a0:List UInt8)(a1:Bool)(a2:List (List UInt8))(a3:Bool)(a4:List Token)(r:Unit):GI :=
 ⟨[.c (.pt 1 0)],[[kS a0,kB a1,.sl 1 (List.map dS a2) 3,kB a3,.os 2 11 0 a4.length],[.arr 11 (List.map Ja a4)]],[9],.ret (.ag [kI 0,kI (-1),kI 0]) [[kS a0,kB a1,.sl 1 (List.map dS a2) 3,kB a3,.os 2 11 0 a4.length],[.arr 11 (List.map Ja a4)]] [9]⟩
def Jgz:GI→Prop:=Sg5 Jgs JgM
theorem JuM:∀ g,Jgz g→Jn Tryz.prog 85 g:=by
 rintro _ ⟨a0,a1,a2,a3,a4,r,H,rfl⟩
 refine xGn mixed [] [] [] trivial trivial trivial Tryz.func85 _ ?_
 have G:=True.intro
 have Y:=xZ y_3 <| xZ y_4 <| xZ y_9 <| xZ y_24 <| xZ y_29 <| xZ y_31 <| xZ y_41 <| xZ y_44 <| xZ y_63 <| xZ Tryz.results85 <| xZ Jm.eq_1 <| xZ Ja.eq_1 <| xZ Jf.eq_1 <| xZ J3.eq_1 <| JgM.eq_1
 dsimp only[JgM]
 unfold Jgs at H
 refine xS ?_
 refine xr ?_
 refine xr ?_
 refine JK (JhG a1 a3 a4) (fun s=>[(0,.c (.pt 1 0)),(2,.c (.pt 3 0)),(8,.c (.os 2 11 0 a4.length)),(9,cI s.1),(10,cI s.2)]) (fun s=>[[kS a0,kB a1,.sl 1 (List.map dS a2) 4,kB a3,.os 2 11 0 a4.length],[.arr 11 (List.map Ja a4)],[kI 0,kI 0,kI 0]]) [9] H (xK ⟨[1,2,4],[3]⟩) ?_
 rintro n1 ⟨x1,x2⟩ o1 H hF1
 rw[JhG]at H
 refine xS ?_
 refine xr ?_
 rcases xB Y G H with⟨p,H,F,G,q⟩|⟨p,H,F,G,q⟩
 ·refine xT0 ?_
  refine V0 ?_
  refine Jk ?_
  refine Jo (JfI x1 x2) (fun s=>[(0,.c (.pt 1 0)),(2,.c (.pt 3 0)),(8,.c (.os 2 11 0 a4.length)),(9,cI x1),(10,cI x2)]) (fun s=>[[kS a0,kB a1,.sl 1 (List.map dS a2) 4,kB a3,.os 2 11 0 a4.length],[.arr 11 (List.map Ja a4)],[kI 0,kI 0,kI 0]]) [9] o1 ?_ ?_
  ·refine xS ?_
   obtain⟨g,H⟩:=Jc H
   obtain⟨g,H⟩:=Jc H
   have F:=xZ Y (Jh Ja a4 x2.toNat default default (by omega))
   refine xR ?_
   refine xr ?_
   rcases xB Y G H with⟨p,H,F,G,q⟩|⟨p,H,F,G,q⟩
   ·refine xT0 ?_
    refine Kv ?_
    refine Jo (JfD x1 x2) (fun s=>[(0,.c (.pt 1 0)),(2,.c (.pt 3 0)),(3,cI x2),(8,.c (.os 2 11 0 a4.length)),(9,cI x1),(10,cI x2),(27,cB s)]) (fun s=>[[kS a0,kB a1,.sl 1 (List.map dS a2) 4,kB a3,.os 2 11 0 a4.length],[.arr 11 (List.map Ja a4)],[kI 0,kI 0,kI 0]]) [9] o1 ?_ ?_
    ·rcases xB Y G H with⟨p,H,F,G,q⟩|⟨p,H,F,G,q⟩
     ·refine xR ?_
      exact Jb H (xK ⟨[1,2,3],[4]⟩)
     refine xR ?_
     exact Jb H (xK ⟨[1,2,3],[4]⟩)
    rintro x3 H
    rw[JfD]at H
    rcases xB Y G H with⟨p,H,F,G,q⟩|⟨p,H,F,G,q⟩
    ·refine xT ?_
     cases H
    refine xE ?_
    exact Jb H (xK ⟨[1,2,3],[4]⟩)
   refine xE0 ?_
   refine V0 ?_
   refine Jk ?_
   refine Jas ?_
   refine Jo (JdX a1 a4 x1 x2) (fun s=>[(0,.c (.pt 1 0)),(2,.c (.pt 3 0)),(3,cI x2),(4,.c (.pt 4 0)),(8,.c (.os 2 11 0 a4.length)),(9,cI x1),(10,cI x2),(34,cB s.1)]) (fun s=>[[kS a0,kB a1,.sl 1 (List.map dS a2) 5,kB a3,.os 2 11 0 a4.length],[.arr 11 (List.map Ja a4)],[kI 0,kI 0,kI 0],[kI s.2.1,kS s.2.2.1,kB s.2.2.2.1,kB s.2.2.2.2.1,kI s.2.2.2.2.2.1,kI s.2.2.2.2.2.2.1,kI s.2.2.2.2.2.2.2.1,kI s.2.2.2.2.2.2.2.2.1,.d (.sl 1 (List.map dS s.2.2.2.2.2.2.2.2.2.1)),.d (.sl 3 (List.map Jm s.2.2.2.2.2.2.2.2.2.2.1)),kI s.2.2.2.2.2.2.2.2.2.2.2]]) [9] o1 ?_ ?_
   ·rcases xB Y G H with⟨p,H,F,G,q⟩|⟨p,H,F,G,q⟩
    ·rcases xB F G H with⟨p,H,F,G,q⟩|⟨p,H,F,G,q⟩
     ·refine xR ?_
      exact Jb H (xK ⟨[1,2,3,5],[4]⟩)
     refine xR ?_
     exact Jb H (xK ⟨[1,2,3,5],[4]⟩)
    refine xR ?_
    exact Jb H (xK ⟨[1,2,3,5],[4]⟩)
   rintro ⟨x4,x5,x6,x7,x8,x9,x10,x11,x12,x13,x14,x15⟩ H
   rw[JdX]at H
   rcases xB Y G H with⟨p,H,F,G,q⟩|⟨p,H,F,G,q⟩
   ·refine xT ?_
    cases H
   refine xE0 ?_
   refine Jo (Jd1 x1 x2) (fun s=>[(0,.c (.pt 1 0)),(2,.c (.pt 3 0)),(3,cI x2),(8,.c (.os 2 11 0 a4.length)),(9,cI x1),(10,cI x2),(58,cB s)]) (fun s=>[[kS a0,kB a1,.sl 1 (List.map dS a2) 4,kB a3,.os 2 11 0 a4.length],[.arr 11 (List.map Ja a4)],[kI 0,kI 0,kI 0]]) [9] o1 ?_ ?_
   ·rcases xB Y G H with⟨p,H,F,G,q⟩|⟨p,H,F,G,q⟩
    ·rcases xB F G H with⟨p,H,F,G,q⟩|⟨p,H,F,G,q⟩
     ·rcases xB F G H with⟨p,H,F,G,q⟩|⟨p,H,F,G,q⟩
      ·refine xR ?_
       exact Jb H (xK ⟨[1,2,3],[5]⟩)
      obtain⟨g,H⟩:=Jc H
      obtain⟨g,H⟩:=Jc H
      have F:=xZ F (Jh Ja a4 ((IntKind.i64.wrap (x2+1)).toNat) default default (by omega))
      cases H
     refine xR ?_
     exact Jb H (xK ⟨[1,2,3],[5]⟩)
    refine xR ?_
    exact Jb H (xK ⟨[1,2,3],[5]⟩)
   rintro x16 H
   rw[Jd1]at H
   rcases xB Y G H with⟨p,H,F,G,q⟩|⟨p,H,F,G,q⟩
   ·refine xT ?_
    cases H
   refine xE ?_
   exact Jb H (xK ⟨[1,2,3],[4]⟩)
  rintro ⟨⟩ H
  rw[JfI]at H
  refine xr ?_
  exact Jw (JA H hF1) (xK ⟨[1,2,3],[4]⟩)
 replace H:=Jq H hF1
 refine xE ?_
 refine xr ?_
 refine xrD [] ?_
 exact xO ⟨[1,2],[4]⟩
theorem Jw4:Jd Tryz.prog 85∧(∀ g,Jgz g→Jn Tryz.prog 85 g)∧(true=true→∀ g,Jgz g→∃ val bs ts,g.out=.ret val bs ts) :=
 ⟨JEF,JuM,fun _=>by rintro _ ⟨_,_,_,_,_,_,_,rfl⟩; exact⟨_,_,_,rfl⟩⟩
noncomputable def JeZ(x5:List Token)(x6 x7:Int)(x8:List Token):(Int×(List UInt8)×Bool×Bool×Int×Int×Int×Int×YX×(List Call)×Int)→Option Ym
 | (x9,x10,x11,x12,x13,x14,x15,x16,x17,x18,x19)=>if(x8.length + [(⟨x9,x10,x11,false,x13,x14,x15,x16,([]:List (List UInt8)),([]:List Call),x19⟩:Token)].length) * 120≤140737488355328 then some (.inl (x5,x6,IntKind.i64.wrap (x7+1),x8++[(⟨x9,x10,x11,false,x13,x14,x15,x16,([]:List (List UInt8)),([]:List Call),x19⟩:Token)])) else none
noncomputable def JeQ(x4:List UInt8):((List Token)×Int×Int×(List Token))→Option Ym
 | (x5,x6,x7,x8)=>if(ltI x7 x6)=true then if(0:Int)≤x7∧x7.toNat<x5.length then if((x5.getD x7.toNat default).Space)=true then JeZ x5 x6 x7 x8 ((x5.getD x7.toNat default).Kind,(x5.getD x7.toNat default).Text,ltI 0 x7,(x5.getD x7.toNat default).First,(x5.getD x7.toNat default).File,(x5.getD x7.toNat default).At,(x5.getD x7.toNat default).End,(x5.getD x7.toNat default).Line,(x5.getD x7.toNat default).Hide,(x5.getD x7.toNat default).Calls,(x5.getD x7.toNat default).Made) else JeZ x5 x6 x7 x8 ((x5.getD x7.toNat default).Kind,(x5.getD x7.toNat default).Text,false,(x5.getD x7.toNat default).First,(x5.getD x7.toNat default).File,(x5.getD x7.toNat default).At,(x5.getD x7.toNat default).End,(x5.getD x7.toNat default).Line,(x5.getD x7.toNat default).Hide,(x5.getD x7.toNat default).Calls,(x5.getD x7.toNat default).Made) else none else inrO ((Jgs x4 false ([]:List (List UInt8)) false x8).bind fun r2=>some ((⟨x4,false,([]:List (List UInt8)),false,x8⟩:Macro),(⟨0,(-1),0⟩:Fault)))
noncomputable def JbE(a0:List Token):YP→Option (Macro×Fault)
 | (x3,x4)=>if x3=true then none else if(ltI 60 (IntKind.i64.wrap ((a0.length:Int)-1)))=true then none else if(0:Int)≤1∧1≤(a0.length:Int)∧(a0.length:Int)≤(a0.length:Int) then Jt (JeQ x4) (List.drop 1 a0,((List.drop 1 a0).length:Int),0,([]:List Token)) else none
noncomputable def Jdp(a0:List Token):YP→Option (Macro×Fault)
 | (x1,x2)=>if x1=true then none else if 0<a0.length then(Xj ((a0.getD 0 default).Text)).bind fun r1=>if r1=true then none else if 0<a0.length then if(ltI 1 (a0.length:Int))=true then if 1<a0.length then if(eqS ((a0.getD 1 default).Text) [40])=true then if 1<a0.length then JbE a0 (!((a0.getD 1 default).Space),(a0.getD 0 default).Text) else none else JbE a0 (false,(a0.getD 0 default).Text) else none else JbE a0 (false,(a0.getD 0 default).Text) else none else none
noncomputable def Jd9(a0:List Token):Option (Macro×Fault) :=
 if(eqI (a0.length:Int) 0)=true then Jdp a0 (true,[]) else if 0<a0.length then Jdp a0 (!eqI ((a0.getD 0 default).Kind) 1,[]) else none
noncomputable def Jhb:PF:=PF.of (E1 (dL 11 Ja)) (fun a=>Jd9 a) (T2 Jf J3)
theorem Jrb:JC Tryz.prog 56 Jhb:=by
 refine xF mixed [(58,JdB)] [(85,true,Jgz)] ⟨⟨Jyg,Jie⟩,trivial⟩ ⟨Jw4,trivial⟩ Tryz.func56 ?_
 rintro a0 out H
 have G:=True.intro
 have Y:=xZ y_3 <| xZ y_4 <| xZ y_9 <| xZ y_24 <| xZ y_29 <| xZ y_31 <| xZ y_41 <| xZ y_42 <| xZ y_44 <| xZ y_63 <| xZ Tryz.results56 <| xZ Jm.eq_1 <| xZ Ja.eq_1 <| xZ Jf.eq_1 <| xZ J3.eq_1 <| JgM.eq_1
 simp only[Jd9]at H
 refine xS ?_
 refine xr ?_
 refine xr0 ?_
 refine Jk ?_
 refine Kv ?_
 refine Jo (Jdp a0) (fun s=>[(0,.c (.d (.sl 11 (List.map Ja a0)))),(2,.c (.pt 1 0)),(3,.c (.pt 2 0)),(4,.c (.d (.v (.func (.func 82) #[] #[])))),(21,cB s.1)]) (fun s=>[[kS s.2,kB false,.sl 1 [] 0,kB false,.sl 11 [] 0],[kI 0,kI 0,kI 0]]) [] out ?_ ?_
 ·rcases xB Y G H with⟨p,H,F,G,q⟩|⟨p,H,F,G,q⟩
  ·refine xR ?_
   exact Jb H (xK ⟨[1,2],[]⟩)
  obtain⟨g,H⟩:=Jc H
  have F:=xZ F (Jh Ja a0 0 default default (by omega))
  refine xR ?_
  exact Jb H (xK ⟨[1,2],[]⟩)
 rintro ⟨x1,x2⟩ H
 rw[Jdp]at H
 rcases xB Y G H with⟨p,H,F,G,q⟩|⟨p,H,F,G,q⟩
 ·refine xT ?_
  cases H
 refine xE ?_
 obtain⟨g,H⟩:=Jc H
 have F:=xZ Y (Jh Ja a0 0 default default (by omega))
 obtain⟨r1,hr1,H⟩:=Jj H
 have F:=xCf F (Jjb ((a0.getD 0 default).Text) r1 hr1)
 refine xR ?_
 rcases xB Y G H with⟨p,H,F,G,q⟩|⟨p,H,F,G,q⟩
 ·refine xT ?_
  cases H
 refine xE ?_
 obtain⟨g,H⟩:=Jc H
 have F:=xZ Y (Jh Ja a0 0 default default (by omega))
 refine xR ?_
 refine xr0 ?_
 refine Jk ?_
 refine Kv ?_
 refine Jo (JbE a0) (fun s=>[(0,.c (.d (.sl 11 (List.map Ja a0)))),(2,.c (.pt 1 0)),(3,.c (.pt 2 0)),(4,.c (.d (.v (.func (.func 82) #[] #[])))),(5,.c (.pt 3 0)),(6,cI 1),(63,cB s.1)]) (fun s=>[[kS x2,kB false,.sl 1 [] 0,kB false,.sl 11 [] 0],[kI 0,kI 0,kI 0],[kS s.2,kB false,.sl 1 [] 0,kB false,.sl 11 [] 0]]) [] out ?_ ?_
 ·rcases xB Y G H with⟨p,H,F,G,q⟩|⟨p,H,F,G,q⟩
  ·obtain⟨g,H⟩:=Jc H
   have F:=xZ F (Jh Ja a0 1 default default (by omega))
   rcases xB F G H with⟨p,H,F,G,q⟩|⟨p,H,F,G,q⟩
   ·obtain⟨g,H⟩:=Jc H
    have F:=xZ F (Jh Ja a0 1 default default (by omega))
    refine xR ?_
    exact Jb H (xK ⟨[1,2,3],[]⟩)
   refine xR ?_
   exact Jb H (xK ⟨[1,2,3],[]⟩)
  refine xR ?_
  exact Jb H (xK ⟨[1,2,3],[]⟩)
 rintro ⟨x3,x4⟩ H
 rw[JbE]at H
 rcases xB Y G H with⟨p,H,F,G,q⟩|⟨p,H,F,G,q⟩
 ·refine xT ?_
  refine xr ?_
  cases H
 refine xE ?_
 refine xr ?_
 rcases xB Y G H with⟨p,H,F,G,q⟩|⟨p,H,F,G,q⟩
 ·refine xT ?_
  cases H
 refine xE ?_
 obtain⟨g,H⟩:=Jc H
 refine xr ?_
 refine JK (JeQ x4) (fun s=>[(2,.c (.pt 1 0)),(3,.c (.pt 2 0)),(4,.c (.d (.v (.func (.func 82) #[] #[])))),(5,.c (.pt 3 0)),(96,.c (.d (.sl 11 (List.map Ja s.1)))),(97,cI s.2.1),(98,cI s.2.2.1)]) (fun s=>[[kS x2,kB false,.sl 1 [] 0,kB false,.sl 11 [] 0],[kI 0,kI 0,kI 0],[kS x4,kB false,.sl 1 [] 0,kB false,.os 4 11 0 s.2.2.2.length],[.arr 11 (List.map Ja s.2.2.2)]]) [] H (xK ⟨[1,2,3,0],[]⟩) ?_
 rintro n1 ⟨x5,x6,x7,x8⟩ o1 H hF1
 rw[JeQ]at H
 refine xS ?_
 refine xr ?_
 rcases xB Y G H with⟨p,H,F,G,q⟩|⟨p,H,F,G,q⟩
 ·refine xT ?_
  obtain⟨g,H⟩:=Jc H
  have F:=xZ Y (Jh Ja x5 x7.toNat default default (by omega))
  refine xR0 ?_
  refine Jk ?_
  refine Jo (JeZ x5 x6 x7 x8) (fun s=>[(2,.c (.pt 1 0)),(3,.c (.pt 2 0)),(4,.c (.d (.v (.func (.func 82) #[] #[])))),(5,.c (.pt 3 0)),(10,.c (.pt 4 0)),(96,.c (.d (.sl 11 (List.map Ja x5)))),(97,cI x6),(98,cI x7)]) (fun s=>[[kS x2,kB false,.sl 1 [] 0,kB false,.sl 11 [] 0],[kI 0,kI 0,kI 0],[kS x4,kB false,.sl 1 [] 0,kB false,.os 5 11 0 x8.length],[kI s.1,kS s.2.1,kB s.2.2.1,kB s.2.2.2.1,kI s.2.2.2.2.1,kI s.2.2.2.2.2.1,kI s.2.2.2.2.2.2.1,kI s.2.2.2.2.2.2.2.1,.d (.sl 1 (List.map dS s.2.2.2.2.2.2.2.2.1)),.d (.sl 3 (List.map Jm s.2.2.2.2.2.2.2.2.2.1)),kI s.2.2.2.2.2.2.2.2.2.2],[.arr 11 (List.map Ja x8)]]) [] o1 ?_ ?_
  ·rcases xB Y G H with⟨p,H,F,G,q⟩|⟨p,H,F,G,q⟩
   ·refine xR ?_
    exact Jb H (xK ⟨[1,2,3,5,4],[]⟩)
   refine xR ?_
   exact Jb H (xK ⟨[1,2,3,5,4],[]⟩)
  rintro ⟨x9,x10,x11,x12,x13,x14,x15,x16,x17,x18,x19⟩ H
  rw[JeZ]at H
  refine xS ?_
  refine xr ?_
  obtain⟨g,H⟩:=Jc H
  have F:=xZ Y (JO KU [(⟨x9,x10,x11,false,x13,x14,x15,x16,([]:List (List UInt8)),([]:List Call),x19⟩:Token)])
  have L:[(⟨x9,x10,x11,false,x13,x14,x15,x16,([]:List (List UInt8)),([]:List Call),x19⟩:Token)].length=1:=rfl
  refine xR ?_
  refine xr ?_
  exact Jw (JA H hF1) (xK ⟨[1,2,3,6],[]⟩)
 replace H:=Jq H hF1
 refine xE ?_
 obtain⟨r2,hr2,H⟩:=Jj H
 have F:=Y
 refine xQ ?_
 refine xc ⟨[3,4],[0]⟩ (tabG 0 (cg5 hr2)) ?_
 refine xs 2 ?_
 refine xl ?_
 refine xS ?_
 refine xr ?_
 refine xe ?_
 replace H:=oI H
 refine xr ?_
 subst H
 refine xNf 4 11 (List.map Ja x8) [] ?_
 exact xN
theorem JuP(a0:List Token)(r:Macro×Fault)(H:Jd9 a0=some r):PC Jhb [(dL 11 Ja) a0] (T2 Jf J3 r):=PF.c (a:=a0) H
noncomputable def Jde(a0:List Macro)(a1:Macro):Option ((List Macro)×Int) :=
 (KI a0 a1.Name).bind fun r1=>if(leI 0 r1)=true then if(0:Int)≤r1∧r1.toNat<a0.length then none else none else if(leI 30 (a0.length:Int))=true then some (([]:List Macro),5) else(JZ a0).bind fun r2=>if(a0.length + [a1].length) * 80≤140737488355328 then some (a0++[a1],0) else none
noncomputable def Jgo:PF:=PF.of (E2 (dL 5 Jf) Jf) (fun a=>Jde a.1 a.2) (T2 (dL 5 Jf) dI)
theorem JoN:JC Tryz.prog 57 Jgo:=by
 refine xFl mixed [8] [(86,Jd0)] [(21,true,J8)] ⟨⟨JqD,JhL⟩,trivial⟩ ⟨JU,trivial⟩ Tryz.func57 ?_
 rintro ⟨a0,a1⟩ out H
 have G:=True.intro
 have Y:=xZ y_9 <| xZ y_28 <| xZ y_63 <| xZ Tryz.results57 <| xZ Jm.eq_1 <| xZ Ja.eq_1 <| xZ Jf.eq_1 <| VF.eq_1
 simp only[Jde]at H
 refine xS ?_
 refine xr ?_
 obtain⟨r1,hr1,H⟩:=Jj H
 have F:=xC Y (Jiy a0 a1.Name r1 hr1)
 refine xR ?_
 refine xr ?_
 rcases xB Y G H with⟨p,H,F,G,q⟩|⟨p,H,F,G,q⟩
 ·refine xT ?_
  obtain⟨g,H⟩:=Jc H
  have F:=xZ Y (Jh Jf a0 r1.toNat default default (by omega))
  cases H
 refine xE ?_
 refine xr ?_
 rcases xB Y G H with⟨p,H,F,G,q⟩|⟨p,H,F,G,q⟩
 ·refine xT ?_
  replace H:=oI H
  refine xr ?_
  subst H
  exact xN
 refine xE ?_
 obtain⟨r2,hr2,H⟩:=Jj H
 have F:=Y
 obtain⟨g,H⟩:=Jc H
 have F:=xZ F (JO Jtb [a1])
 have L:[a1].length=1:=rfl
 refine xP [0,2,3,1,4,5,6] [27] ⟨JU,trivial⟩ ?_
 refine xsX 1 ?_
 refine xaX ?_
 refine xsX 1 ?_
 refine xcX ⟨[],[]⟩ (tabG 0 (cg1 hr2)) ?_
 refine xbX ?_
 refine xsX 2 ?_
 refine xlX ?_
 replace H:=oI H
 refine xS ?_
 subst H
 refine xNf 3 5 (List.map Jf (a0++[a1])) [] ?_
 exact xN
theorem Jqz(a0:List Macro)(a1:Macro)(r:(List Macro)×Int)(H:Jde a0 a1=some r):PC Jgo [(dL 5 Jf) a0,Jf a1] (T2 (dL 5 Jf) dI r):=PF.c (a:=(a0,a1)) H
noncomputable def XQ(a0:List Int)(a1:Int):(Int×Int)→Option YY
 | (x1,x2)=>if(ltI x2 x1)=true then if(0:Int)≤x2∧x2.toNat<a0.length then if(eqI a1 (a0.getD x2.toNat default))=true then inrO (some x2) else some (.inl (x1,IntKind.i64.wrap (x2+1))) else none else inrO (some (-1))
noncomputable def Xd(a0:List Int)(a1:Int):Option Int :=
 Jt (XQ a0 a1) ((a0.length:Int),0)
noncomputable def Jbb:PF:=PF.of (E2 (dL 1 dI) dI) (fun a=>Xd a.1 a.2) dI
theorem JhX:JC Tryz.prog 116 Jbb:=by
 refine xF mixed [] [] trivial trivial Tryz.func116 ?_
 rintro ⟨a0,a1⟩ out H
 have G:=True.intro
 have Y:=xZ y_3 <| xZ y_25 <| Tryz.results116
 simp only[Xd]at H
 refine xS ?_
 refine xr ?_
 refine xr ?_
 refine JK (XQ a0 a1) (fun s=>[(0,.c (.d (.sl 1 (List.map dI a0)))),(1,cI a1),(7,cI s.1),(8,cI s.2)]) (fun s=>[]) [] H (xK ⟨[],[]⟩) ?_
 rintro n1 ⟨x1,x2⟩ o1 H hF1
 rw[XQ]at H
 refine xS ?_
 refine xr ?_
 rcases xB Y G H with⟨p,H,F,G,q⟩|⟨p,H,F,G,q⟩
 ·refine xT ?_
  refine xr ?_
  obtain⟨g,H⟩:=Jc H
  have F:=xZ Y (Jh dI a0 x2.toNat default default (by omega))
  refine xR ?_
  rcases xB Y G H with⟨p,H,F,G,q⟩|⟨p,H,F,G,q⟩
  ·refine xT ?_
   replace H:=Jq H hF1
   replace H:=oI H
   refine xr ?_
   subst H
   exact xN
  refine xE ?_
  refine xr ?_
  exact Jw (JA H hF1) (xK ⟨[],[]⟩)
 replace H:=Jq H hF1
 refine xE ?_
 replace H:=oI H
 refine xr ?_
 subst H
 exact xN
theorem Jik(a0:List Int)(a1 r:Int)(H:Xd a0 a1=some r):PC Jbb [(dL 1 dI) a0,dI a1] (dI r):=PF.c (a:=(a0,a1)) H
noncomputable def KT(a0:List Int)(a1:Int):Option Bool :=
 (Xd a0 a1).bind fun r1=>some (leI 0 r1)
noncomputable def ZN:PF:=PF.of (E2 (dL 1 dI) dI) (fun a=>KT a.1 a.2) dB
theorem Jhd:JC Tryz.prog 91 ZN:=by
 refine xF mixed [(116,Jbb)] [] ⟨⟨JCv,JhX⟩,trivial⟩ trivial Tryz.func91 ?_
 rintro ⟨a0,a1⟩ out H
 have G:=True.intro
 have Y:=Tryz.results91
 simp only[KT]at H
 refine xS ?_
 refine xr ?_
 obtain⟨r1,hr1,H⟩:=Jj H
 have F:=xC Y (Jik a0 a1 r1 hr1)
 replace H:=oI H
 refine xR ?_
 subst H
 exact xN
theorem Jhu(a0:List Int)(a1:Int)(r:Bool)(H:KT a0 a1=some r):PC ZN [(dL 1 dI) a0,dI a1] (dB r):=PF.c (a:=(a0,a1)) H
def Jlt(a0:Int)(a1:List Source)(a2 a3 a4:Int)(a5:List Macro)(a6 a7:List Int)(a8:Int)(a9:List Token):GR Yh Yl→GOut
 | .ok r=>.ret (.tu []) [[.d (.sl 2 (List.map Jg a1)),kI r.1,kI a3,kI a4,.d (.sl 5 (List.map Jf r.2.1)),.sl 1 (List.map dI r.2.2.1) 4,.os 3 11 0 r.2.2.2.2.2.length,.sl 1 (List.map dI r.2.2.2.1) 5,kI r.2.2.2.2.1],[],[.arr 11 (List.map Ja r.2.2.2.2.2)]] [3,3]
 | .er r=>.pan (.iface 78 (.agg ⟨[.int .i64 r.1,.int .i64 r.2.1,.int .i64 r.2.2.1]⟩)) [[.d (.sl 2 (List.map Jg a1)),kI r.2.2.2.1,kI a3,kI a4,.d (.sl 5 (List.map Jf r.2.2.2.2.1)),.sl 1 (List.map dI r.2.2.2.2.2.1) 4,.os 3 11 0 r.2.2.2.2.2.2.2.2.length,.sl 1 (List.map dI r.2.2.2.2.2.2.1) 5,kI r.2.2.2.2.2.2.2.1],[],[.arr 11 (List.map Ja r.2.2.2.2.2.2.2.2)]] [3,3]
def ZC(a0:Int)(a1:List Source)(a2 a3 a4:Int)(a5:List Macro)(a6 a7:List Int)(a8:Int)(a9:List Token)(r:GR Yh Yl):GI :=
 ⟨[.c (.pt 1 0),cI a0],[[.d (.sl 2 (List.map Jg a1)),kI a2,kI a3,kI a4,.d (.sl 5 (List.map Jf a5)),.sl 1 (List.map dI a6) 3,.os 2 11 0 a9.length,.sl 1 (List.map dI a7) 4,kI a8],[.arr 11 (List.map Ja a9)]],[3,3],Jlt a0 a1 a2 a3 a4 a5 a6 a7 a8 a9 r⟩
def Vg(q:Int→(List Source)→Int→Int→Int→(List Macro)→(List Int)→(List Int)→Int→(List Token)→Option Yc):GI→Prop:=Sg10 q ZC
def JkP(a0:List Token)(a1:List Source)(a2 a3 a4:Int)(a5:List Macro)(a6 a7:List Int)(a8:Int)(a9:List Token):GR Yh Yl→GOut
 | .ok r=>.ret (.tu []) [[.d (.sl 2 (List.map Jg a1)),kI r.1,kI a3,kI a4,.d (.sl 5 (List.map Jf r.2.1)),.sl 1 (List.map dI r.2.2.1) 4,.os 3 11 0 r.2.2.2.2.2.length,.sl 1 (List.map dI r.2.2.2.1) 5,kI r.2.2.2.2.1],[],[.arr 11 (List.map Ja r.2.2.2.2.2)]] [3,3]
 | .er r=>.pan (.iface 78 (.agg ⟨[.int .i64 r.1,.int .i64 r.2.1,.int .i64 r.2.2.1]⟩)) [[.d (.sl 2 (List.map Jg a1)),kI r.2.2.2.1,kI a3,kI a4,.d (.sl 5 (List.map Jf r.2.2.2.2.1)),.sl 1 (List.map dI r.2.2.2.2.2.1) 4,.os 3 11 0 r.2.2.2.2.2.2.2.2.length,.sl 1 (List.map dI r.2.2.2.2.2.2.1) 5,kI r.2.2.2.2.2.2.2.1],[],[.arr 11 (List.map Ja r.2.2.2.2.2.2.2.2)]] [3,3]
def Jbf(a0:List Token)(a1:List Source)(a2 a3 a4:Int)(a5:List Macro)(a6 a7:List Int)(a8:Int)(a9:List Token)(r:GR Yh Yl):GI :=
 ⟨[.c (.pt 1 0),.c (.d (.sl 11 (List.map Ja a0)))],[[.d (.sl 2 (List.map Jg a1)),kI a2,kI a3,kI a4,.d (.sl 5 (List.map Jf a5)),.sl 1 (List.map dI a6) 3,.os 2 11 0 a9.length,.sl 1 (List.map dI a7) 4,kI a8],[.arr 11 (List.map Ja a9)]],[3,3],JkP a0 a1 a2 a3 a4 a5 a6 a7 a8 a9 r⟩
def Vv(q:(List Token)→(List Source)→Int→Int→Int→(List Macro)→(List Int)→(List Int)→Int→(List Token)→Option Yc):GI→Prop:=Sg10 q Jbf
def Jjm(a0:List Token)(a1:List Source)(a2 a3 a4:Int)(a5:List Macro)(a6 a7:List Int)(a8:Int)(a9:List Token):GR Yh Yl→GOut
 | .ok r=>.ret (.tu []) [[.d (.sl 2 (List.map Jg a1)),kI r.1,kI a3,kI a4,.d (.sl 5 (List.map Jf r.2.1)),.sl 1 (List.map dI r.2.2.1) 4,.os 3 11 0 r.2.2.2.2.2.length,.sl 1 (List.map dI r.2.2.2.1) 5,kI r.2.2.2.2.1],[],[.arr 11 (List.map Ja r.2.2.2.2.2)]] [3,3]
 | .er r=>.pan (.iface 78 (.agg ⟨[.int .i64 r.1,.int .i64 r.2.1,.int .i64 r.2.2.1]⟩)) [[.d (.sl 2 (List.map Jg a1)),kI r.2.2.2.1,kI a3,kI a4,.d (.sl 5 (List.map Jf r.2.2.2.2.1)),.sl 1 (List.map dI r.2.2.2.2.2.1) 4,.os 3 11 0 r.2.2.2.2.2.2.2.2.length,.sl 1 (List.map dI r.2.2.2.2.2.2.1) 5,kI r.2.2.2.2.2.2.2.1],[],[.arr 11 (List.map Ja r.2.2.2.2.2.2.2.2)]] [3,3]
def ZY(a0:List Token)(a1:List Source)(a2 a3 a4:Int)(a5:List Macro)(a6 a7:List Int)(a8:Int)(a9:List Token)(r:GR Yh Yl):GI :=
 ⟨[.c (.pt 1 0),.c (.d (.sl 11 (List.map Ja a0)))],[[.d (.sl 2 (List.map Jg a1)),kI a2,kI a3,kI a4,.d (.sl 5 (List.map Jf a5)),.sl 1 (List.map dI a6) 3,.os 2 11 0 a9.length,.sl 1 (List.map dI a7) 4,kI a8],[.arr 11 (List.map Ja a9)]],[3,3],Jjm a0 a1 a2 a3 a4 a5 a6 a7 a8 a9 r⟩
def Vc(q:(List Token)→(List Source)→Int→Int→Int→(List Macro)→(List Int)→(List Int)→Int→(List Token)→Option Yc):GI→Prop:=Sg10 q ZY
noncomputable def JY(x2 x3:Int):(Nat×Int×(List Macro)×(List Int)×(List Int)×Int×Ya1×(List Token)×(List Token))→Option Ya
 | (x12,x13,x14,x15,x16,x17,x18,x19,x20)=>some (.inl (x12,x2,IntKind.i64.wrap (x3+1),x13,x14,x15,x16,x17,x18,x19,x20))
noncomputable def VY(x2 x3 x4:Int)(x5:List Macro)(x6 x7:List Int)(x8:Int)(x9:List drive_group)(x11:List Token):YU→Option Ya
 | (x24,x25)=>JY x2 x3 (x24,x4,x5,x6,x7,x8,x9,x25,x11)
noncomputable def Kh(q2:(List Token)→(List Source)→Int→Int→Int→(List Macro)→(List Int)→(List Int)→Int→(List Token)→Option Yc)(a1:List Source)(a3 a4 x2 x3:Int)(x5:List Macro)(x6 x7:List Int)(x8:Int)(x22:List Token)(r5:YQ)(r6:Yx):(Nat×Bool)→Option Ya
 | (x26,x27)=>if x27=true then grB (q2 x22 a1 r6.2.2.1 a3 a4 x5 x6 x7 x8 r5.2) (fun r7=>JY x2 x3 (x26,r7.1,r7.2.1,r7.2.2.1,r7.2.2.2.1,r7.2.2.2.2.1,r6.2.2.2,([]:List Token),r7.2.2.2.2.2)) (fun e4=>inrO (some (.er (e4.1,e4.2.1,e4.2.2.1,e4.2.2.2.1,e4.2.2.2.2.1,e4.2.2.2.2.2.1,e4.2.2.2.2.2.2.1,e4.2.2.2.2.2.2.2.1,e4.2.2.2.2.2.2.2.2)))) else JY x2 x3 (x26,r6.2.2.1,x5,x6,x7,x8,r6.2.2.2,([]:List Token),r5.2)
noncomputable def VV(q2:(List Token)→(List Source)→Int→Int→Int→(List Macro)→(List Int)→(List Int)→Int→(List Token)→Option Yc)(a1:List Source)(a3 a4 x2 x3 x4:Int)(x5:List Macro)(x6 x7:List Int)(x8:Int)(x9:List drive_group)(x10 x11:List Token):(Nat×(List Token)×Bool)→Option Ya
 | (x21,x22,x23)=>if x23=true then(J9 x21 x9).bind fun r4=>if r4=true then if(x10.length+x22.length) * 120≤140737488355328 then VY x2 x3 x4 x5 x6 x7 x8 x9 x11 (x21,x10++x22) else none else VY x2 x3 x4 x5 x6 x7 x8 x9 x11 (x21,x10) else grB (JV x10 a1 x4 a3 a4 x5 x6 x7 x8 x11) (fun r5=>if(eqI (x22.length:Int) 1)=true then JY x2 x3 (x21,r5.1,x5,x6,x7,x8,x9,([]:List Token),r5.2) else grB (JH x21 x22 a1 r5.1 a3 a4 x5 x6 x7 x8 x9 r5.2) (fun r6=>if(!r6.2.1)=true then(J9 r6.1 r6.2.2.2).bind fun r8=>Kh q2 a1 a3 a4 x2 x3 x5 x6 x7 x8 x22 r5 r6 (r6.1,r8) else Kh q2 a1 a3 a4 x2 x3 x5 x6 x7 x8 x22 r5 r6 (r6.1,false)) (fun e3=>inrO (some (.er (e3.1,e3.2.1,e3.2.2.1,e3.2.2.2,x5,x6,x7,x8,r5.2))))) (fun e2=>inrO (some (.er (e2.1,e2.2.1,e2.2.2.1,e2.2.2.2.1,x5,x6,x7,x8,e2.2.2.2.2))))
noncomputable def JB(q2:(List Token)→(List Source)→Int→Int→Int→(List Macro)→(List Int)→(List Int)→Int→(List Token)→Option Yc)(a1:List Source)(a3 a4:Int)(r3:YZ):(Nat×Int×Int×Int×(List Macro)×(List Int)×(List Int)×Int×Ya1×(List Token)×(List Token))→Option Ya
 | (x1,x2,x3,x4,x5,x6,x7,x8,x9,x10,x11)=>if(ltI x3 x2)=true then if(0:Int)≤x3∧x3.toNat<r3.length then if 0<(r3.getD x3.toNat default).length then if(!eqS (((r3.getD x3.toNat default).getD 0 default).Text) [35])=true then VV q2 a1 a3 a4 x2 x3 x4 x5 x6 x7 x8 x9 x10 x11 (x1,(r3.getD x3.toNat default),true) else if 0<(r3.getD x3.toNat default).length then VV q2 a1 a3 a4 x2 x3 x4 x5 x6 x7 x8 x9 x10 x11 (x1,(r3.getD x3.toNat default),!eqI (((r3.getD x3.toNat default).getD 0 default).Kind) 5) else none else none else none else inrO (grB (JV x10 a1 x4 a3 a4 x5 x6 x7 x8 x11) (fun r9=>if(ltI 0 ((x1:Nat):Int))=true then if x1≤x9.length then if(0:Int)≤(IntKind.i64.wrap (((x1:Nat):Int)-1))∧(IntKind.i64.wrap (((x1:Nat):Int)-1)).toNat<(List.take x1 x9).length then none else none else none else some (.ok (r9.1,x5,x6,x7,x8,r9.2))) (fun e5=>some (.er (e5.1,e5.2.1,e5.2.2.1,e5.2.2.2.1,x5,x6,x7,x8,e5.2.2.2.2))))
noncomputable def V8(q1:Int→(List Source)→Int→Int→Int→(List Macro)→(List Int)→(List Int)→Int→(List Token)→Option Yc)(q2 q3:(List Token)→(List Source)→Int→Int→Int→(List Macro)→(List Int)→(List Int)→Int→(List Token)→Option Yc)(a0:Int)(a1:List Source)(a2 a3 a4:Int)(a5:List Macro)(a6 a7:List Int)(a8:Int)(a9:List Token):Option Yc :=
 if(a7.length + [a0].length) * 8≤140737488355328 then if(0:Int)≤a0∧a0.toNat<a1.length then(Jfa a0 ((a1.getD a0.toNat default).Text)).bind fun r1=>grB (JdH r1.2) (fun r2=>(Jes r1.1).bind fun r3=>Jt (JB q2 a1 a3 a4 r3) (0,(r3.length:Int),0,a2,a5,a6,a7++[a0],a8,([]:List drive_group),([]:List Token),a9)) (fun e1=>some (.er (r1.2.Err,r1.2.File,r1.2.At,a2,a5,a6,a7++[a0],a8,a9))) else none else none
theorem JjB(q1:Int→(List Source)→Int→Int→Int→(List Macro)→(List Int)→(List Int)→Int→(List Token)→Option Yc)(q2 q3:(List Token)→(List Source)→Int→Int→Int→(List Macro)→(List Int)→(List Int)→Int→(List Token)→Option Yc)(kq1:Kok Tryz.prog 24 false (Vg q1))(kq2:Kok Tryz.prog 38 false (Vv q2))(kq3:Kok Tryz.prog 60 false (Vc q3)):∀ g,Vg (V8 q1 q2 q3) g→Jn Tryz.prog 24 g:=by
 rintro _ ⟨a0,a1,a2,a3,a4,a5,a6,a7,a8,a9,r,H,rfl⟩
 refine xGn mixed [(32,JhK),(34,JiM)] [(33,false,JbZ),(35,true,JbM),(36,false,Jbm),(37,false,XX),(38,false,(Vv q2))] [] ⟨⟨JEd,JuL⟩,⟨JED,JwH⟩,trivial⟩ ⟨JbO,Jh9,Jj9,Jiu,kq2,trivial⟩ trivial Tryz.func24 _ ?_
 have G:=True.intro
 have Y:=xZ y_3 <| xZ y_9 <| xZ y_24 <| xZ y_25 <| xZ y_27 <| xZ y_31 <| xZ y_35 <| xZ y_37 <| xZ y_44 <| xZ y_65 <| xZ y_80 <| xZ y_81 <| xZ y_90 <| xZ Tryz.results24 <| xZ Jg.eq_1 <| xZ Jm.eq_1 <| xZ Ja.eq_1 <| xZ Jf.eq_1 <| xZ KF.eq_1 <| xZ J3.eq_1 <| xZ Jl.eq_1 <| xZ JbQ.eq_1 <| xZ JbT.eq_1 <| xZ Jbl.eq_1 <| xZ XW.eq_1 <| xZ Jbf.eq_1 <| ZC.eq_1
 dsimp only[ZC]
 simp only[V8]at H
 refine xS ?_
 refine xrn 2 1 ?_
 obtain⟨g,H⟩:=Jc H
 have F:=xZ Y (JO JjN [a0])
 refine xR ?_
 obtain⟨g,H⟩:=Jc H
 have F:=xZ Y (Jh Jg a1 a0.toNat default default (by omega))
 obtain⟨r1,hr1,H⟩:=Jj H
 have F:=xCf F (JvY a0 ((a1.getD a0.toNat default).Text) r1 hr1)
 refine xR ?_
 rcases Jae H with⟨r2,hr2,H⟩|⟨e1,hr3,H⟩
 ·have F:=Y
  refine xQ ?_
  refine xs 1 ?_
  refine xc ⟨[],[]⟩ (tabG 0 (cg1 hr2)) ?_
  refine xl ?_
  refine xS ?_
  refine xr ?_
  refine xr ?_
  obtain⟨r3,hr4,H⟩:=Jj H
  have F:=xC Y (Jxo r1.1 r3 hr4)
  refine xR ?_
  refine JK (JB q2 a1 a3 a4 r3) (fun s=>[(0,.c (.pt 1 0)),(6,.c (.os 3 14 0 s.1)),(7,.c (.os 4 11 0 s.2.2.2.2.2.2.2.2.2.1.length)),(40,.c (.d (.sl 1 (List.map (dL 11 Ja) r3)))),(41,cI s.2.1),(42,cI s.2.2.1)]) (fun s=>[[.d (.sl 2 (List.map Jg a1)),kI s.2.2.2.1,kI a3,kI a4,.d (.sl 5 (List.map Jf s.2.2.2.2.1)),.sl 1 (List.map dI s.2.2.2.2.2.1) 6,.os 5 11 0 s.2.2.2.2.2.2.2.2.2.2.length,.sl 1 (List.map dI s.2.2.2.2.2.2.1) 7,kI s.2.2.2.2.2.2.2.1],[],[.arr 14 (List.map Jl s.2.2.2.2.2.2.2.2.1)],[.arr 11 (List.map Ja s.2.2.2.2.2.2.2.2.2.1)],[.arr 11 (List.map Ja s.2.2.2.2.2.2.2.2.2.2)]]) [3,3] H (xK ⟨[1,2,0,0,5],[3,6]⟩) ?_
  rintro n1 ⟨x1,x2,x3,x4,x5,x6,x7,x8,x9,x10,x11⟩ o1 H hF1
  rw[JB]at H
  refine xS ?_
  refine xr ?_
  rcases xB Y G H with⟨p,H,F,G,q⟩|⟨p,H,F,G,q⟩
  ·refine xT0 ?_
   refine V0 ?_
   refine Jk ?_
   refine Jo (JY x2 x3) (fun s=>[(0,.c (.pt 1 0)),(6,.c (.os 3 14 0 s.1)),(7,.c (.os 4 11 0 s.2.2.2.2.2.2.2.1.length)),(40,.c (.d (.sl 1 (List.map (dL 11 Ja) r3)))),(41,cI x2),(42,cI x3)]) (fun s=>[[.d (.sl 2 (List.map Jg a1)),kI s.2.1,kI a3,kI a4,.d (.sl 5 (List.map Jf s.2.2.1)),.sl 1 (List.map dI s.2.2.2.1) 6,.os 5 11 0 s.2.2.2.2.2.2.2.2.length,.sl 1 (List.map dI s.2.2.2.2.1) 7,kI s.2.2.2.2.2.1],[],[.arr 14 (List.map Jl s.2.2.2.2.2.2.1)],[.arr 11 (List.map Ja s.2.2.2.2.2.2.2.1)],[.arr 11 (List.map Ja s.2.2.2.2.2.2.2.2)]]) [3,3] o1 ?_ ?_
   ·refine xS ?_
    obtain⟨g,H⟩:=Jc H
    have F:=xZ Y (Jh (dL 11 Ja) r3 x3.toNat default default (by omega))
    refine xR0 ?_
    refine Jk ?_
    refine Kv ?_
    refine Jo (VV q2 a1 a3 a4 x2 x3 x4 x5 x6 x7 x8 x9 x10 x11) (fun s=>[(0,.c (.pt 1 0)),(6,.c (.os 3 14 0 s.1)),(7,.c (.os 4 11 0 x10.length)),(9,.c (.d (.sl 11 (List.map Ja s.2.1)))),(40,.c (.d (.sl 1 (List.map (dL 11 Ja) r3)))),(41,cI x2),(42,cI x3),(57,cB s.2.2)]) (fun s=>[[.d (.sl 2 (List.map Jg a1)),kI x4,kI a3,kI a4,.d (.sl 5 (List.map Jf x5)),.sl 1 (List.map dI x6) 6,.os 5 11 0 x11.length,.sl 1 (List.map dI x7) 7,kI x8],[],[.arr 14 (List.map Jl x9)],[.arr 11 (List.map Ja x10)],[.arr 11 (List.map Ja x11)]]) [3,3] o1 ?_ ?_
    ·obtain⟨g,H⟩:=Jc H
     have F:=xZ Y (Jh Ja (r3.getD x3.toNat default) 0 default default (by omega))
     rcases xB F G H with⟨p,H,F,G,q⟩|⟨p,H,F,G,q⟩
     ·refine xR ?_
      exact Jb H (xK ⟨[1,2,3,4,5],[6,7]⟩)
     obtain⟨g,H⟩:=Jc H
     have F:=xZ F (Jh Ja (r3.getD x3.toNat default) 0 default default (by omega))
     refine xR ?_
     exact Jb H (xK ⟨[1,2,3,4,5],[6,7]⟩)
    rintro ⟨x21,x22,x23⟩ H
    rw[VV]at H
    rcases xB Y G H with⟨p,H,F,G,q⟩|⟨p,H,F,G,q⟩
    ·refine xT0 ?_
     refine Jo (VY x2 x3 x4 x5 x6 x7 x8 x9 x11) (fun s=>[(0,.c (.pt 1 0)),(6,.c (.os 3 14 0 s.1)),(7,.c (.os 4 11 0 s.2.length)),(40,.c (.d (.sl 1 (List.map (dL 11 Ja) r3)))),(41,cI x2),(42,cI x3)]) (fun s=>[[.d (.sl 2 (List.map Jg a1)),kI x4,kI a3,kI a4,.d (.sl 5 (List.map Jf x5)),.sl 1 (List.map dI x6) 6,.os 5 11 0 x11.length,.sl 1 (List.map dI x7) 7,kI x8],[],[.arr 14 (List.map Jl x9)],[.arr 11 (List.map Ja s.2)],[.arr 11 (List.map Ja x11)]]) [3,3] o1 ?_ ?_
     ·refine xS ?_
      obtain⟨r4,hr5,H⟩:=Jj H
      have F:=Y
      refine xQ ?_
      refine xs 1 ?_
      refine xc ⟨[3],[]⟩ (tabG 1 (cg2 hr5)) ?_
      refine xl ?_
      refine xS ?_
      rcases xB Y G H with⟨p,H,F,G,q⟩|⟨p,H,F,G,q⟩
      ·refine xT ?_
       obtain⟨g,H⟩:=Jc H
       have F:=xZ Y (JO KU x22)
       have A:=JO KU x22
       refine xR ?_
       exact Jb H (xK ⟨[1,2,3,9,5],[6,7]⟩)
      refine xE ?_
      exact Jb H (xK ⟨[1,2,3,4,5],[6,7]⟩)
     rintro ⟨x24,x25⟩ H
     rw[VY]at H
     refine xS ?_
     exact Jb H (xK ⟨[1,2,3,4,5],[6,7]⟩)
    refine xE ?_
    refine xfz 4 11 (List.map Ja x10) [] ?_
    rcases Jae H with⟨r5,hr6,H⟩|⟨e2,hr7,H⟩
    ·have F:=Y
     refine xQ ?_
     refine xs 2 ?_
     refine xc ⟨[1,5],[6,7]⟩ (tabG 2 (cg10 hr6)) ?_
     refine xl ?_
     refine xS ?_
     refine xr ?_
     refine xr ?_
     rcases xB Y G H with⟨p,H,F,G,q⟩|⟨p,H,F,G,q⟩
     ·refine xT ?_
      exact Jb H (xK ⟨[1,2,3,0,10],[11,12]⟩)
     refine xE ?_
     rcases Jae H with⟨r6,hr8,H⟩|⟨e3,hr9,H⟩
     ·have F:=Y
      refine xQ ?_
      refine xs 3 ?_
      refine xc ⟨[1,3,10],[11,12]⟩ (tabG 3 (cg12 hr8)) ?_
      refine xs 5 ?_
      refine xl ?_
      refine xS ?_
      refine xr0 ?_
      refine Jk ?_
      refine Jo (Kh q2 a1 a3 a4 x2 x3 x5 x6 x7 x8 x22 r5 r6) (fun s=>[(0,.c (.pt 1 0)),(6,.c (.os 3 14 0 s.1)),(7,.c (.sl 11 [] 0)),(9,.c (.d (.sl 11 (List.map Ja x22)))),(40,.c (.d (.sl 1 (List.map (dL 11 Ja) r3)))),(41,cI x2),(42,cI x3),(82,cB s.2)]) (fun s=>[[.d (.sl 2 (List.map Jg a1)),kI r6.2.2.1,kI a3,kI a4,.d (.sl 5 (List.map Jf x5)),.sl 1 (List.map dI x6) 5,.os 4 11 0 r5.2.length,.sl 1 (List.map dI x7) 6,kI x8],[],[.arr 14 (List.map Jl r6.2.2.2)],[.arr 11 (List.map Ja r5.2)]]) [3,3] o1 ?_ ?_
      ·rcases xB Y G H with⟨p,H,F,G,q⟩|⟨p,H,F,G,q⟩
       ·obtain⟨r8,hr12,H⟩:=Jj H
        have F:=F
        refine xQ ?_
        refine xs 4 ?_
        refine xc ⟨[16],[]⟩ (tabG 1 (cg2 hr12)) ?_
        refine xs 1 ?_
        refine xl ?_
        refine xS ?_
        exact Jb H (xK ⟨[1,2,16,17],[18,19]⟩)
       refine xR ?_
       exact Jb H (xK ⟨[1,2,16,17],[18,19]⟩)
      rintro ⟨x26,x27⟩ H
      rw[Kh]at H
      rcases xB Y G H with⟨p,H,F,G,q⟩|⟨p,H,F,G,q⟩
      ·refine xT ?_
       rcases Jae H with⟨r7,hr10,H⟩|⟨e4,hr11,H⟩
       ·have F:=Y
        refine xQ ?_
        refine xs 2 ?_
        refine xc ⟨[1,4],[5,6]⟩ (tabG 4 (cg10 hr10)) ?_
        refine xl ?_
        refine xS ?_
        exact Jb H (xK ⟨[1,2,3,0,9],[10,11]⟩)
       have F:=Y
       refine xQp [83,84,85] ?_
       refine xs 2 ?_
       refine xp ⟨[1,4],[5,6]⟩ (tabG 4 (cg10 hr11)) ?_
       replace H:=Jq H hF1
       replace H:=oI H
       refine xS ?_
       subst H
       refine xpD [] ?_
       exact xOv ⟨[1,2,9],[10,11]⟩
      refine xE ?_
      exact Jb H (xK ⟨[1,2,3,0,4],[5,6]⟩)
     have F:=Y
     refine xQp [70,71,72,73,69,74,75,10,11] ?_
     refine xs 3 ?_
     refine xp ⟨[1,3,10],[11,12]⟩ (tabG 3 (cg12 hr9)) ?_
     replace H:=Jq H hF1
     replace H:=oI H
     refine xS ?_
     subst H
     refine xpD [] ?_
     exact xOv ⟨[1,2,16],[17,18]⟩
    have F:=Y
    refine xQp [63,64,65] ?_
    refine xs 2 ?_
    refine xp ⟨[1,5],[6,7]⟩ (tabG 2 (cg10 hr7)) ?_
    replace H:=Jq H hF1
    replace H:=oI H
    refine xS ?_
    subst H
    refine xpD [] ?_
    exact xOv ⟨[1,2,10],[11,12]⟩
   rintro ⟨x12,x13,x14,x15,x16,x17,x18,x19,x20⟩ H
   rw[JY]at H
   refine xr ?_
   exact Jw (JA H hF1) (xK ⟨[1,2,3,4,5],[6,7]⟩)
  replace H:=Jq H hF1
  refine xE ?_
  refine xfz 4 11 (List.map Ja x10) [] ?_
  rcases Jae H with⟨r9,hr13,H⟩|⟨e5,hr14,H⟩
  ·have F:=Y
   refine xQ ?_
   refine xs 2 ?_
   refine xc ⟨[1,5],[6,7]⟩ (tabG 2 (cg10 hr13)) ?_
   refine xl ?_
   refine xS ?_
   refine xr ?_
   rcases xB Y G H with⟨p,H,F,G,q⟩|⟨p,H,F,G,q⟩
   ·refine xT ?_
    obtain⟨hg,H⟩:=Jc H
    have T:=JfU x9 x1 hg
    have Y:=xZ Y T
    refine xft 3 x1 ?_
    refine xfz 3 14 (List.map Jl (List.take x1 x9)) [] ?_
    obtain⟨g,H⟩:=Jc H
    have F:=xZ Y (Jh Jl (List.take x1 x9) ((IntKind.i64.wrap (((x1:Nat):Int)-1)).toNat) default default (by omega))
    cases H
   replace H:=oI H
   refine xE ?_
   subst H
   refine xnD [] ?_
   exact xO ⟨[1,2,10],[11,12]⟩
  have F:=Y
  refine xQp [87,88,89] ?_
  refine xs 2 ?_
  refine xp ⟨[1,5],[6,7]⟩ (tabG 2 (cg10 hr14)) ?_
  replace H:=oI H
  refine xS ?_
  subst H
  refine xpD [] ?_
  exact xOv ⟨[1,2,10],[11,12]⟩
 have F:=Y
 refine xQp [37,38] ?_
 refine xs 1 ?_
 refine xp ⟨[],[]⟩ (tabG 0 (cg1 hr3)) ?_
 replace H:=oI H
 refine xS ?_
 subst H
 refine xpD [] ?_
 exact xOv ⟨[1,2,5],[3,6]⟩
noncomputable def XA(a0:List Token)(a2:Int)(a5:List Macro)(a6 a7:List Int)(a8:Int)(a9:List Token)(r1:Macro×Fault):(Int×Int)→Option Yc
 | (x1,x2)=>grB (JdH (⟨r1.2.Err,x1,x2⟩:Fault)) (fun r2=>(Jde a5 r1.1).bind fun r3=>if(!eqI r3.2 0)=true then if 2<a0.length then none else none else some (.ok (a2,r3.1,a6,a7,a8,a9))) (fun e1=>some (.er ((⟨r1.2.Err,x1,x2⟩:Fault).Err,(⟨r1.2.Err,x1,x2⟩:Fault).File,(⟨r1.2.Err,x1,x2⟩:Fault).At,a2,a5,a6,a7,a8,a9)))
noncomputable def XE(a0:List Token)(a2:Int)(a5:List Macro)(a6 a7:List Int)(a8:Int)(a9:List Token)(r1:Macro×Fault):Bool→Option Yc
 | x3=>if x3=true then if 1<a0.length then if 1<a0.length then XA a0 a2 a5 a6 a7 a8 a9 r1 ((a0.getD 1 default).File,(a0.getD 1 default).At) else none else none else XA a0 a2 a5 a6 a7 a8 a9 r1 (r1.2.File,r1.2.At)
noncomputable def JaL(a0:List Token):Bool→Option Yc
 | x4=>if x4=true then if 1<a0.length then none else none else if 2<a0.length then(Xj ((a0.getD 2 default).Text)).bind fun r4=>if r4=true then if 2<a0.length then none else none else if 2<a0.length then none else none else none
noncomputable def XG(a0:List Token)(a2:Int)(a5:List Macro)(a6 a7:List Int)(a8:Int)(a9:List Token):Bool→Option Yc
 | x5=>if x5=true then if 2<a0.length then if(a6.length + [(a0.getD 2 default).File].length) * 8≤140737488355328 then some (.ok (a2,a5,a6++[(a0.getD 2 default).File],a7,a8,a9)) else none else none else some (.ok (a2,a5,a6,a7,a8,a9))
noncomputable def JF(q1:Int→(List Source)→Int→Int→Int→(List Macro)→(List Int)→(List Int)→Int→(List Token)→Option Yc)(q2 q3:(List Token)→(List Source)→Int→Int→Int→(List Macro)→(List Int)→(List Int)→Int→(List Token)→Option Yc)(a0:List Token)(a1:List Source)(a2 a3 a4:Int)(a5:List Macro)(a6 a7:List Int)(a8:Int)(a9:List Token):Option Yc :=
 if 1<a0.length then if(eqS ((a0.getD 1 default).Text) [100,101,102,105,110,101])=true then if(0:Int)≤2∧2≤(a0.length:Int)∧(a0.length:Int)≤(a0.length:Int) then(Jd9 (List.drop 2 a0)).bind fun r1=>if(ltI r1.2.File 0)=true then XE a0 a2 a5 a6 a7 a8 a9 r1 (!eqI r1.2.Err 0) else XE a0 a2 a5 a6 a7 a8 a9 r1 false else none else if(eqS ((a0.getD 1 default).Text) [117,110,100,101,102])=true then if(!eqI (a0.length:Int) 3)=true then JaL a0 true else if 2<a0.length then JaL a0 (!eqI ((a0.getD 2 default).Kind) 1) else none else if(eqS ((a0.getD 1 default).Text) [105,110,99,108,117,100,101])=true then grB (q3 a0 a1 a2 a3 a4 a5 a6 a7 a8 a9) (fun r5=>some (.ok (r5.1,r5.2.1,r5.2.2.1,r5.2.2.2.1,r5.2.2.2.2.1,r5.2.2.2.2.2))) (fun e2=>some (.er (e2.1,e2.2.1,e2.2.2.1,e2.2.2.2.1,e2.2.2.2.2.1,e2.2.2.2.2.2.1,e2.2.2.2.2.2.2.1,e2.2.2.2.2.2.2.2.1,e2.2.2.2.2.2.2.2.2))) else if(eqS ((a0.getD 1 default).Text) [101,114,114,111,114])=true then if 1<a0.length then none else none else if(eqS ((a0.getD 1 default).Text) [112,114,97,103,109,97])=true then if(eqI (a0.length:Int) 3)=true then if 2<a0.length then XG a0 a2 a5 a6 a7 a8 a9 (eqS ((a0.getD 2 default).Text) [111,110,99,101]) else none else XG a0 a2 a5 a6 a7 a8 a9 false else if 1<a0.length then none else none else none
theorem Jjx(q1:Int→(List Source)→Int→Int→Int→(List Macro)→(List Int)→(List Int)→Int→(List Token)→Option Yc)(q2 q3:(List Token)→(List Source)→Int→Int→Int→(List Macro)→(List Int)→(List Int)→Int→(List Token)→Option Yc)(kq1:Kok Tryz.prog 24 false (Vg q1))(kq2:Kok Tryz.prog 38 false (Vv q2))(kq3:Kok Tryz.prog 60 false (Vc q3)):∀ g,Vv (JF q1 q2 q3) g→Jn Tryz.prog 38 g:=by
 rintro _ ⟨a0,a1,a2,a3,a4,a5,a6,a7,a8,a9,r,H,rfl⟩
 refine xGnl mixed [5] [(56,Jhb),(57,Jgo),(58,JdB)] [(33,false,JbZ),(60,false,(Vc q3))] [] ⟨⟨JEg,Jrb⟩,⟨JEr,JoN⟩,⟨Jyg,Jie⟩,trivial⟩ ⟨JbO,kq3,trivial⟩ trivial Tryz.func38 _ ?_
 have G:=True.intro
 have Y:=xZ y_3 <| xZ y_9 <| xZ y_24 <| xZ y_25 <| xZ y_28 <| xZ y_29 <| xZ y_31 <| xZ y_44 <| xZ y_63 <| xZ y_65 <| xZ Tryz.results38 <| xZ Jg.eq_1 <| xZ Jm.eq_1 <| xZ Ja.eq_1 <| xZ Jf.eq_1 <| xZ KF.eq_1 <| xZ J3.eq_1 <| xZ JbQ.eq_1 <| xZ ZY.eq_1 <| Jbf.eq_1
 dsimp only[Jbf]
 simp only[JF]at H
 refine xS ?_
 refine xrn 2 1 ?_
 obtain⟨g,H⟩:=Jc H
 have F:=xZ Y (Jh Ja a0 1 default default (by omega))
 refine xR ?_
 refine xr ?_
 rcases xB Y G H with⟨p,H,F,G,q⟩|⟨p,H,F,G,q⟩
 ·refine xT ?_
  obtain⟨g,H⟩:=Jc H
  obtain⟨r1,hr1,H⟩:=Jj H
  have F:=xC Y (JuP (List.drop 2 a0) r1 hr1)
  refine xR0 ?_
  refine Jk ?_
  refine Jo (XA a0 a2 a5 a6 a7 a8 a9 r1) (fun s=>[(0,.c (.pt 1 0)),(1,.c (.d (.sl 11 (List.map Ja a0)))),(4,.c (.pt 3 0)),(5,.c (.pt 4 0))]) (fun s=>[[.d (.sl 2 (List.map Jg a1)),kI a2,kI a3,kI a4,.d (.sl 5 (List.map Jf a5)),.sl 1 (List.map dI a6) 6,.os 5 11 0 a9.length,.sl 1 (List.map dI a7) 7,kI a8],[],[kS r1.1.Name,kB r1.1.Call,.d (.sl 1 (List.map dS r1.1.Params)),kB r1.1.More,.d (.sl 11 (List.map Ja r1.1.Body))],[kI r1.2.Err,kI s.1,kI s.2],[.arr 11 (List.map Ja a9)]]) [3,3] r ?_ ?_
  ·refine Jo (XE a0 a2 a5 a6 a7 a8 a9 r1) (fun s=>[(0,.c (.pt 1 0)),(1,.c (.d (.sl 11 (List.map Ja a0)))),(4,.c (.pt 3 0)),(5,.c (.pt 4 0)),(30,cB s)]) (fun s=>[[.d (.sl 2 (List.map Jg a1)),kI a2,kI a3,kI a4,.d (.sl 5 (List.map Jf a5)),.sl 1 (List.map dI a6) 6,.os 5 11 0 a9.length,.sl 1 (List.map dI a7) 7,kI a8],[],[kS r1.1.Name,kB r1.1.Call,.d (.sl 1 (List.map dS r1.1.Params)),kB r1.1.More,.d (.sl 11 (List.map Ja r1.1.Body))],[kI r1.2.Err,kI r1.2.File,kI r1.2.At],[.arr 11 (List.map Ja a9)]]) [3,3] r ?_ ?_
   ·rcases xB Y G H with⟨p,H,F,G,q⟩|⟨p,H,F,G,q⟩
    ·refine xR ?_
     exact Jb H (xK ⟨[1,2,6,7,5],[3,4]⟩)
    refine xR ?_
    exact Jb H (xK ⟨[1,2,6,7,5],[3,4]⟩)
   rintro x3 H
   rw[XE]at H
   rcases xB Y G H with⟨p,H,F,G,q⟩|⟨p,H,F,G,q⟩
   ·refine xT ?_
    obtain⟨g,H⟩:=Jc H
    have F:=xZ Y (Jh Ja a0 1 default default (by omega))
    obtain⟨g,H⟩:=Jc H
    have F:=xZ F (Jh Ja a0 1 default default (by omega))
    refine xP [0,1,2,3,4,5,6,7,8,9,10,11] [38] ⟨JbO,kq3,trivial⟩ ?_
    refine xsX 7 ?_
    refine xaX ?_
    refine xsX 1 ?_
    refine xbX ?_
    refine xsX 1 ?_
    refine xbX ?_
    refine xlX ?_
    refine xS ?_
    exact Jb H (xK ⟨[1,2,3,4,5],[6,7]⟩)
   refine xE ?_
   exact Jb H (xK ⟨[1,2,3,4,5],[6,7]⟩)
  rintro ⟨x1,x2⟩ H
  rw[XA]at H
  refine xS ?_
  rcases Jae H with⟨r2,hr2,H⟩|⟨e1,hr3,H⟩
  ·have F:=Y
   refine xQ ?_
   refine xs 1 ?_
   refine xc ⟨[],[]⟩ (tabG 0 (cg1 hr2)) ?_
   refine xl ?_
   refine xS ?_
   obtain⟨r3,hr4,H⟩:=Jj H
   have F:=xC Y (Jqz a5 r1.1 r3 hr4)
   refine xR ?_
   refine xr ?_
   rcases xB Y G H with⟨p,H,F,G,q⟩|⟨p,H,F,G,q⟩
   ·refine xT ?_
    obtain⟨g,H⟩:=Jc H
    have F:=xZ Y (Jh Ja a0 2 default default (by omega))
    cases H
   refine xE ?_
   replace H:=oI H
   refine xr ?_
   subst H
   refine xnD [] ?_
   exact xO ⟨[1,2,5],[6,7]⟩
  have F:=Y
  refine xQp [41,42] ?_
  refine xs 1 ?_
  refine xp ⟨[],[]⟩ (tabG 0 (cg1 hr3)) ?_
  replace H:=oI H
  refine xS ?_
  subst H
  refine xpD [] ?_
  exact xOv ⟨[1,2,5],[6,7]⟩
 refine xE ?_
 refine xr ?_
 rcases xB Y G H with⟨p,H,F,G,q⟩|⟨p,H,F,G,q⟩
 ·refine xT0 ?_
  refine Kv ?_
  refine Jo (JaL a0) (fun s=>[(0,.c (.pt 1 0)),(1,.c (.d (.sl 11 (List.map Ja a0)))),(73,cB s)]) (fun s=>[[.d (.sl 2 (List.map Jg a1)),kI a2,kI a3,kI a4,.d (.sl 5 (List.map Jf a5)),.sl 1 (List.map dI a6) 4,.os 3 11 0 a9.length,.sl 1 (List.map dI a7) 5,kI a8],[],[.arr 11 (List.map Ja a9)]]) [3,3] r ?_ ?_
  ·rcases xB Y G H with⟨p,H,F,G,q⟩|⟨p,H,F,G,q⟩
   ·refine xR ?_
    exact Jb H (xK ⟨[1,2,5],[3,4]⟩)
   obtain⟨g,H⟩:=Jc H
   have F:=xZ F (Jh Ja a0 2 default default (by omega))
   refine xR ?_
   exact Jb H (xK ⟨[1,2,5],[3,4]⟩)
  rintro x4 H
  rw[JaL]at H
  rcases xB Y G H with⟨p,H,F,G,q⟩|⟨p,H,F,G,q⟩
  ·refine xT ?_
   obtain⟨g,H⟩:=Jc H
   have F:=xZ Y (Jh Ja a0 1 default default (by omega))
   cases H
  refine xE ?_
  obtain⟨g,H⟩:=Jc H
  have F:=xZ Y (Jh Ja a0 2 default default (by omega))
  obtain⟨r4,hr5,H⟩:=Jj H
  have F:=xCf F (Jjb ((a0.getD 2 default).Text) r4 hr5)
  refine xR ?_
  rcases xB Y G H with⟨p,H,F,G,q⟩|⟨p,H,F,G,q⟩
  ·refine xT ?_
   obtain⟨g,H⟩:=Jc H
   have F:=xZ Y (Jh Ja a0 2 default default (by omega))
   cases H
  refine xE ?_
  obtain⟨g,H⟩:=Jc H
  have F:=xZ Y (Jh Ja a0 2 default default (by omega))
  cases H
 refine xE ?_
 refine xr ?_
 rcases xB Y G H with⟨p,H,F,G,q⟩|⟨p,H,F,G,q⟩
 ·refine xT ?_
  rcases Jae H with⟨r5,hr6,H⟩|⟨e2,hr7,H⟩
  ·have F:=Y
   refine xQ ?_
   refine xs 2 ?_
   refine xc ⟨[1,5],[3,4]⟩ (tabG 1 (cg10 hr6)) ?_
   refine xl ?_
   replace H:=oI H
   refine xS ?_
   subst H
   refine xnD [] ?_
   exact xO ⟨[1,2,8],[9,10]⟩
  have F:=Y
  refine xQp [99,100,101] ?_
  refine xs 2 ?_
  refine xp ⟨[1,5],[3,4]⟩ (tabG 1 (cg10 hr7)) ?_
  replace H:=oI H
  refine xS ?_
  subst H
  refine xpD [] ?_
  exact xOv ⟨[1,2,8],[9,10]⟩
 refine xE ?_
 refine xr ?_
 rcases xB Y G H with⟨p,H,F,G,q⟩|⟨p,H,F,G,q⟩
 ·refine xT ?_
  obtain⟨g,H⟩:=Jc H
  have F:=xZ Y (Jh Ja a0 1 default default (by omega))
  cases H
 refine xE ?_
 refine xr ?_
 rcases xB Y G H with⟨p,H,F,G,q⟩|⟨p,H,F,G,q⟩
 ·refine xT0 ?_
  refine Jo (XG a0 a2 a5 a6 a7 a8 a9) (fun s=>[(0,.c (.pt 1 0)),(1,.c (.d (.sl 11 (List.map Ja a0)))),(118,cB s)]) (fun s=>[[.d (.sl 2 (List.map Jg a1)),kI a2,kI a3,kI a4,.d (.sl 5 (List.map Jf a5)),.sl 1 (List.map dI a6) 4,.os 3 11 0 a9.length,.sl 1 (List.map dI a7) 5,kI a8],[],[.arr 11 (List.map Ja a9)]]) [3,3] r ?_ ?_
  ·rcases xB Y G H with⟨p,H,F,G,q⟩|⟨p,H,F,G,q⟩
   ·obtain⟨g,H⟩:=Jc H
    have F:=xZ F (Jh Ja a0 2 default default (by omega))
    refine xR ?_
    exact Jb H (xK ⟨[1,2,5],[3,4]⟩)
   refine xR ?_
   exact Jb H (xK ⟨[1,2,5],[3,4]⟩)
  rintro x5 H
  rw[XG]at H
  rcases xB Y G H with⟨p,H,F,G,q⟩|⟨p,H,F,G,q⟩
  ·refine xT ?_
   obtain⟨g,H⟩:=Jc H
   have F:=xZ Y (Jh Ja a0 2 default default (by omega))
   obtain⟨g,H⟩:=Jc H
   have F:=xZ F (JO JjN [(a0.getD 2 default).File])
   replace H:=oI H
   refine xR ?_
   subst H
   refine xnD [] ?_
   exact xO ⟨[1,2,3],[6,5]⟩
  replace H:=oI H
  refine xE ?_
  subst H
  refine xnD [] ?_
  exact xO ⟨[1,2,3],[4,5]⟩
 refine xE ?_
 obtain⟨g,H⟩:=Jc H
 have F:=xZ Y (Jh Ja a0 1 default default (by omega))
 cases H
noncomputable def Vd(q1:Int→(List Source)→Int→Int→Int→(List Macro)→(List Int)→(List Int)→Int→(List Token)→Option Yc)(a0:List Token)(a1:List Source)(a2 a3 a4:Int)(a5:List Macro)(a6 a7:List Int)(a8:Int)(a9:List Token):Bool→Option Yc
 | x1=>if x1=true then if 1<a0.length then(Jfb 2 (a0.getD 1 default)).bind fun e1=>some (.er (2,(a0.getD 1 default).File,(a0.getD 1 default).At,a2,a5,a6,a7,a8,a9)) else none else if 2<a0.length then if 2<a0.length then if(0:Int)≤1∧1≤(IntKind.i64.wrap ((((a0.getD 2 default).Text).length:Int)-1))∧(IntKind.i64.wrap ((((a0.getD 2 default).Text).length:Int)-1))≤(((a0.getD 2 default).Text).length:Int) then if 2<a0.length then if 2<a0.length then(Xi a1 ((a0.getD 2 default).File) (List.take ((IntKind.i64.wrap ((((a0.getD 2 default).Text).length:Int)-1)).toNat-1) (List.drop 1 ((a0.getD 2 default).Text))) (eqI ((a0.getD 2 default).Kind) 4)).bind fun r2=>if(ltI r2 0)=true then if 2<a0.length then(Jfb 6 (a0.getD 2 default)).bind fun e2=>some (.er (6,(a0.getD 2 default).File,(a0.getD 2 default).At,a2,a5,a6,a7,a8,a9)) else none else(KT a6 r2).bind fun r4=>if r4=true then some (.ok (a2,a5,a6,a7,a8,a9)) else if(leI a4 a8)=true then if 2<a0.length then(Jfb 10 (a0.getD 2 default)).bind fun e3=>some (.er (10,(a0.getD 2 default).File,(a0.getD 2 default).At,a2,a5,a6,a7,a8,a9)) else none else grB (q1 r2 a1 a2 a3 a4 a5 a6 a7 (IntKind.i64.wrap (a8+1)) a9) (fun r6=>some (.ok (r6.1,r6.2.1,r6.2.2.1,r6.2.2.2.1,IntKind.i64.wrap (r6.2.2.2.2.1-1),r6.2.2.2.2.2))) (fun e4=>some (.er (e4.1,e4.2.1,e4.2.2.1,e4.2.2.2.1,e4.2.2.2.2.1,e4.2.2.2.2.2.1,e4.2.2.2.2.2.2.1,e4.2.2.2.2.2.2.2.1,e4.2.2.2.2.2.2.2.2))) else none else none else none else none else none
noncomputable def Vn(q1:Int→(List Source)→Int→Int→Int→(List Macro)→(List Int)→(List Int)→Int→(List Token)→Option Yc)(q2 q3:(List Token)→(List Source)→Int→Int→Int→(List Macro)→(List Int)→(List Int)→Int→(List Token)→Option Yc)(a0:List Token)(a1:List Source)(a2 a3 a4:Int)(a5:List Macro)(a6 a7:List Int)(a8:Int)(a9:List Token):Option Yc :=
 if(!eqI (a0.length:Int) 3)=true then Vd q1 a0 a1 a2 a3 a4 a5 a6 a7 a8 a9 true else if 2<a0.length then if(!eqI ((a0.getD 2 default).Kind) 4)=true then if 2<a0.length then Vd q1 a0 a1 a2 a3 a4 a5 a6 a7 a8 a9 (!eqI ((a0.getD 2 default).Kind) 7) else none else Vd q1 a0 a1 a2 a3 a4 a5 a6 a7 a8 a9 false else none
theorem Jif(q1:Int→(List Source)→Int→Int→Int→(List Macro)→(List Int)→(List Int)→Int→(List Token)→Option Yc)(q2 q3:(List Token)→(List Source)→Int→Int→Int→(List Macro)→(List Int)→(List Int)→Int→(List Token)→Option Yc)(kq1:Kok Tryz.prog 24 false (Vg q1))(kq2:Kok Tryz.prog 38 false (Vv q2))(kq3:Kok Tryz.prog 60 false (Vc q3)):∀ g,Vc (Vn q1 q2 q3) g→Jn Tryz.prog 60 g:=by
 rintro _ ⟨a0,a1,a2,a3,a4,a5,a6,a7,a8,a9,r,H,rfl⟩
 refine xGn mixed [(90,JfM),(91,ZN)] [(39,false,Jey),(24,false,(Vg q1))] [] ⟨⟨JD2,Jn7⟩,⟨JEi,Jhd⟩,trivial⟩ ⟨JgQ,kq1,trivial⟩ trivial Tryz.func60 _ ?_
 have G:=True.intro
 have Y:=xZ y_3 <| xZ y_9 <| xZ y_24 <| xZ y_25 <| xZ y_37 <| xZ y_39 <| xZ y_44 <| xZ y_65 <| xZ Tryz.results60 <| xZ Jg.eq_1 <| xZ Jm.eq_1 <| xZ Ja.eq_1 <| xZ Jf.eq_1 <| xZ KF.eq_1 <| xZ JeA.eq_1 <| xZ ZC.eq_1 <| ZY.eq_1
 dsimp only[ZY]
 simp only[Vn]at H
 refine Kv ?_
 refine Jo (Vd q1 a0 a1 a2 a3 a4 a5 a6 a7 a8 a9) (fun s=>[(0,.c (.pt 1 0)),(1,.c (.d (.sl 11 (List.map Ja a0)))),(22,cB s)]) (fun s=>[[.d (.sl 2 (List.map Jg a1)),kI a2,kI a3,kI a4,.d (.sl 5 (List.map Jf a5)),.sl 1 (List.map dI a6) 4,.os 3 11 0 a9.length,.sl 1 (List.map dI a7) 5,kI a8],[],[.arr 11 (List.map Ja a9)]]) [3,3] r ?_ ?_
 ·refine xrn 2 1 ?_
  rcases xB Y G H with⟨p,H,F,G,q⟩|⟨p,H,F,G,q⟩
  ·refine xR ?_
   exact Jb H (xK ⟨[1,2,5],[3,4]⟩)
  obtain⟨g,H⟩:=Jc H
  have F:=xZ F (Jh Ja a0 2 default default (by omega))
  rcases xB F G H with⟨p,H,F,G,q⟩|⟨p,H,F,G,q⟩
  ·obtain⟨g,H⟩:=Jc H
   have F:=xZ F (Jh Ja a0 2 default default (by omega))
   refine xR ?_
   exact Jb H (xK ⟨[1,2,5],[3,4]⟩)
  refine xR ?_
  exact Jb H (xK ⟨[1,2,5],[3,4]⟩)
 rintro x1 H
 rw[Vd]at H
 rcases xB Y G H with⟨p,H,F,G,q⟩|⟨p,H,F,G,q⟩
 ·refine xT ?_
  obtain⟨g,H⟩:=Jc H
  have F:=xZ Y (Jh Ja a0 1 default default (by omega))
  obtain⟨e1,hr2,H⟩:=Jj H
  have F:=F
  refine xQp [23,24,25] ?_
  refine xs 2 ?_
  refine xp ⟨[],[]⟩ (tabG 0 (cg2 hr2)) ?_
  replace H:=oI H
  refine xS ?_
  subst H
  refine xpD [] ?_
  exact xOv ⟨[1,2,3],[4,5]⟩
 refine xE ?_
 obtain⟨g,H⟩:=Jc H
 have F:=xZ Y (Jh Ja a0 2 default default (by omega))
 obtain⟨g,H⟩:=Jc H
 have F:=xZ F (Jh Ja a0 2 default default (by omega))
 obtain⟨g,H⟩:=Jc H
 refine xR ?_
 obtain⟨g,H⟩:=Jc H
 have F:=xZ Y (Jh Ja a0 2 default default (by omega))
 obtain⟨g,H⟩:=Jc H
 have F:=xZ F (Jh Ja a0 2 default default (by omega))
 obtain⟨r2,hr3,H⟩:=Jj H
 have F:=xCf F (Jp0 a1 ((a0.getD 2 default).File) (List.take ((IntKind.i64.wrap ((((a0.getD 2 default).Text).length:Int)-1)).toNat-1) (List.drop 1 ((a0.getD 2 default).Text))) (eqI ((a0.getD 2 default).Kind) 4) r2 hr3)
 refine xR ?_
 refine xr ?_
 rcases xB Y G H with⟨p,H,F,G,q⟩|⟨p,H,F,G,q⟩
 ·refine xT ?_
  obtain⟨g,H⟩:=Jc H
  have F:=xZ Y (Jh Ja a0 2 default default (by omega))
  obtain⟨e2,hr5,H⟩:=Jj H
  have F:=F
  refine xQp [55,56,57] ?_
  refine xs 2 ?_
  refine xp ⟨[],[]⟩ (tabG 0 (cg2 hr5)) ?_
  replace H:=oI H
  refine xS ?_
  subst H
  refine xpD [] ?_
  exact xOv ⟨[1,2,3],[4,5]⟩
 refine xE ?_
 obtain⟨r4,hr6,H⟩:=Jj H
 have F:=xC Y (Jhu a6 r2 r4 hr6)
 refine xR ?_
 rcases xB Y G H with⟨p,H,F,G,q⟩|⟨p,H,F,G,q⟩
 ·replace H:=oI H
  refine xT ?_
  subst H
  refine xrD [] ?_
  exact xO ⟨[1,2,3],[4,5]⟩
 refine xE ?_
 refine xr ?_
 rcases xB Y G H with⟨p,H,F,G,q⟩|⟨p,H,F,G,q⟩
 ·refine xT ?_
  obtain⟨g,H⟩:=Jc H
  have F:=xZ Y (Jh Ja a0 2 default default (by omega))
  obtain⟨e3,hr8,H⟩:=Jj H
  have F:=F
  refine xQp [76,77,78] ?_
  refine xs 2 ?_
  refine xp ⟨[],[]⟩ (tabG 0 (cg2 hr8)) ?_
  replace H:=oI H
  refine xS ?_
  subst H
  refine xpD [] ?_
  exact xOv ⟨[1,2,3],[4,5]⟩
 refine xE ?_
 refine xr ?_
 rcases Jae H with⟨r6,hr9,H⟩|⟨e4,hr10,H⟩
 ·have F:=Y
  refine xQ ?_
  refine xs 2 ?_
  refine xc ⟨[1,3],[4,5]⟩ (tabG 1 (cg10 hr9)) ?_
  refine xl ?_
  refine xS ?_
  replace H:=oI H
  refine xr ?_
  subst H
  refine xnD [] ?_
  exact xO ⟨[1,2,8],[9,10]⟩
 have F:=Y
 refine xQp [86,87,88] ?_
 refine xs 2 ?_
 refine xp ⟨[1,3],[4,5]⟩ (tabG 1 (cg10 hr10)) ?_
 replace H:=oI H
 refine xS ?_
 subst H
 refine xpD [] ?_
 exact xOv ⟨[1,2,8],[9,10]⟩
noncomputable def Ji:Nat→(Int→(List Source)→Int→Int→Int→(List Macro)→(List Int)→(List Int)→Int→(List Token)→Option Yc)×Yb×Yb
 | 0=>(fun _ _ _ _ _ _ _ _ _ _=>none,fun _ _ _ _ _ _ _ _ _ _=>none,fun _ _ _ _ _ _ _ _ _ _=>none)
 | n+1=>(V8 ((Ji n).1) ((Ji n).2.1) ((Ji n).2.2),JF ((Ji n).1) ((Ji n).2.1) ((Ji n).2.2),Vn ((Ji n).1) ((Ji n).2.1) ((Ji n).2.2))
theorem Jfc:∀ n,Kok Tryz.prog 24 false (Vg (Ji n).1)∧Kok Tryz.prog 38 false (Vv (Ji n).2.1)∧Kok Tryz.prog 60 false (Vc (Ji n).2.2)
 | 0=>⟨⟨Jx8,(by rintro _ ⟨_,_,_,_,_,_,_,_,_,_,_,H,_⟩; cases H),nofun⟩,⟨Jx1,(by rintro _ ⟨_,_,_,_,_,_,_,_,_,_,_,H,_⟩; cases H),nofun⟩,⟨JyW,(by rintro _ ⟨_,_,_,_,_,_,_,_,_,_,_,H,_⟩; cases H),nofun⟩⟩
 | n+1=>have h:=Jfc n; ⟨⟨Jx8,JjB _ _ _ h.1 h.2.1 h.2.2,nofun⟩,⟨Jx1,Jjx _ _ _ h.1 h.2.1 h.2.2,nofun⟩,⟨JyW,Jif _ _ _ h.1 h.2.1 h.2.2,nofun⟩⟩
noncomputable def Jfe:Int→(List Source)→Int→Int→Int→(List Macro)→(List Int)→(List Int)→Int→(List Token)→Option Yc:=(Ji bigF).1
def JgW:GI→Prop:=Vg Jfe
theorem Jb6:Kok Tryz.prog 24 false JgW:=(Jfc bigF).1
noncomputable def Jhp(a0 a1 a2:Int):Option Unit :=
 some ()
def Jc8(a0 a1 a2:Int)(r:Unit):DI :=
 ⟨[.c (.pt 1 0)],[[kI a0,kI a1,kI a2]],[],none,[[kI a0,kI a1,kI a2]],[],none⟩
def Jg1:DI→Prop:=fun d=>∃ (a0 a1 a2:Int) (r:Unit),Jhp a0 a1 a2=some r∧d=Jc8 a0 a1 a2 r
theorem JqP(a0 a1 a2:Int)(r:Unit)(H:Jhp a0 a1 a2=some r):Jg1 (Jc8 a0 a1 a2 r):=⟨a0,a1,a2,r,H,rfl⟩
theorem Jqd:∀ d,Jg1 d→DOk Tryz.prog 23 d:=by
 rintro _ ⟨a0,a1,a2,r,H,rfl⟩
 refine xRcl mixed [] [] [] trivial trivial Tryz.func23 _ ?_
 have G:=True.intro
 have Y:=xZ y_20 <| xZ y_31 <| xZ y_78 <| xZ Tryz.results23 <| xZ J3.eq_1 <| Jc8.eq_1
 dsimp only[Jc8,Option.getD_some,Option.getD_none]
 unfold Jhp at H
 refine xS ?_
 refine xr ?_
 refine xt ?_
 replace H:=oI H
 refine xr ?_
 subst H
 exact xDn ⟨[1],[]⟩
noncomputable def Jhm(a0 a1 a2:Int)(a3:List Token)(a4:List Int)(a5:List Macro):Option Yv :=
 if(!eqI a0 0)=true then some (([]:List Token),([]:List Int),([]:List Macro)) else some (a3,a4,a5)
def Jdg(a0 a1 a2:Int)(a3:List Token)(a4:List Int)(a5:List Macro)(r:Yv)(u:Option Value):DI :=
 ⟨[.c (.pt 1 0),.c (.pt 2 0),.c (.pt 3 0)],[[kI a0,kI a1,kI a2],[.d (.sl 11 (List.map Ja a3)),.sl 1 (List.map dI a4) 4],[.d (.sl 5 (List.map Jf a5))]],[3],u,[[kI a0,kI a1,kI a2],[.d (.sl 11 (List.map Ja r.1)),.sl 1 (List.map dI r.2.1) 4],[.d (.sl 5 (List.map Jf r.2.2))]],[3],u⟩
def Jg0:DI→Prop:=fun d=>∃ (a0 a1 a2:Int) (a3:List Token) (a4:List Int) (a5:List Macro) (r:Yv) (u:Option Value),Jhm a0 a1 a2 a3 a4 a5=some r∧d=Jdg a0 a1 a2 a3 a4 a5 r u
theorem JqR(a0 a1 a2:Int)(a3:List Token)(a4:List Int)(a5:List Macro)(r:Yv)(u:Option Value)(H:Jhm a0 a1 a2 a3 a4 a5=some r):Jg0 (Jdg a0 a1 a2 a3 a4 a5 r u):=⟨a0,a1,a2,a3,a4,a5,r,u,H,rfl⟩
theorem JpT:∀ d,Jg0 d→DOk Tryz.prog 22 d:=by
 rintro _ ⟨a0,a1,a2,a3,a4,a5,r,u,H,rfl⟩
 refine xDf mixed [] [] trivial trivial Tryz.func22 _ ?_
 have G:=True.intro
 have Y:=xZ y_24 <| xZ y_25 <| xZ y_27 <| xZ y_28 <| xZ y_29 <| xZ y_31 <| xZ Tryz.results22 <| xZ Jm.eq_1 <| xZ Ja.eq_1 <| xZ Jf.eq_1 <| Jdg.eq_1
 dsimp only[Jdg]
 simp only[Jhm]at H
 refine xS ?_
 refine xr ?_
 rcases xB Y G H with⟨p,H,F,G,q⟩|⟨p,H,F,G,q⟩
 ·refine xT ?_
  replace H:=oI H
  refine xr ?_
  subst H
  exact xDn ⟨[1,2,3],[0]⟩
 replace H:=oI H
 refine xE ?_
 subst H
 exact xDn ⟨[1,2,3],[4]⟩
noncomputable def Jc3(a0 a1 a2 a3 a4 a5:Int):Option Unit :=
 some ()
def Ja1(a0 a1 a2 a3 a4 a5:Int)(r:Unit):DI :=
 ⟨[.c (.pt 1 0)],[[kI a0,kI a1,kI a2]],[],(some (.iface 78 (.agg ⟨[.int .i64 a3,.int .i64 a4,.int .i64 a5]⟩))),[[kI a3,kI a4,kI a5]],[],none⟩
def Jfg:DI→Prop:=fun d=>∃ (a0 a1 a2 a3 a4 a5:Int) (r:Unit),Jc3 a0 a1 a2 a3 a4 a5=some r∧d=Ja1 a0 a1 a2 a3 a4 a5 r
theorem JnI(a0 a1 a2 a3 a4 a5:Int)(r:Unit)(H:Jc3 a0 a1 a2 a3 a4 a5=some r):Jfg (Ja1 a0 a1 a2 a3 a4 a5 r):=⟨a0,a1,a2,a3,a4,a5,r,H,rfl⟩
theorem Jmo:∀ d,Jfg d→DOk Tryz.prog 23 d:=by
 rintro _ ⟨a0,a1,a2,a3,a4,a5,r,H,rfl⟩
 refine xRcl mixed [] [] [] trivial trivial Tryz.func23 _ ?_
 have G:=True.intro
 have Y:=xZ y_20 <| xZ y_31 <| xZ y_78 <| xZ Tryz.results23 <| xZ J3.eq_1 <| Ja1.eq_1
 dsimp only[Ja1,Option.getD_some,Option.getD_none]
 unfold Jc3 at H
 refine xS ?_
 refine xr ?_
 refine xe ?_
 refine xr ?_
 refine xt ?_
 refine xr ?_
 replace H:=oI H
 refine xr ?_
 subst H
 exact xDn ⟨[1],[]⟩
noncomputable def Jda(a0 a1 a2:Int)(a3:List Token)(a4:List Int)(a5:List Macro):Option Yv :=
 if(!eqI a0 0)=true then some (([]:List Token),([]:List Int),([]:List Macro)) else some (a3,a4,a5)
def Ja2(a0 a1 a2:Int)(a3:List Token)(a4:List Int)(a5:List Macro)(r:Yv)(u:Option Value):DI :=
 ⟨[.c (.pt 1 0),.c (.pt 2 0),.c (.pt 3 0)],[[kI a0,kI a1,kI a2],[.sl 11 (List.map Ja a3) 4,.sl 1 (List.map dI a4) 5],[.sl 5 (List.map Jf a5) 6]],[44,3,63],u,[[kI a0,kI a1,kI a2],[.sl 11 (List.map Ja r.1) 4,.sl 1 (List.map dI r.2.1) 5],[.sl 5 (List.map Jf r.2.2) 6]],[44,3,63],u⟩
def Jfl:DI→Prop:=fun d=>∃ (a0 a1 a2:Int) (a3:List Token) (a4:List Int) (a5:List Macro) (r:Yv) (u:Option Value),Jda a0 a1 a2 a3 a4 a5=some r∧d=Ja2 a0 a1 a2 a3 a4 a5 r u
theorem JnC(a0 a1 a2:Int)(a3:List Token)(a4:List Int)(a5:List Macro)(r:Yv)(u:Option Value)(H:Jda a0 a1 a2 a3 a4 a5=some r):Jfl (Ja2 a0 a1 a2 a3 a4 a5 r u):=⟨a0,a1,a2,a3,a4,a5,r,u,H,rfl⟩
theorem JlI:∀ d,Jfl d→DOk Tryz.prog 22 d:=by
 rintro _ ⟨a0,a1,a2,a3,a4,a5,r,u,H,rfl⟩
 refine xDf mixed [] [] trivial trivial Tryz.func22 _ ?_
 have G:=True.intro
 have Y:=xZ y_24 <| xZ y_25 <| xZ y_27 <| xZ y_28 <| xZ y_29 <| xZ y_31 <| xZ Tryz.results22 <| xZ Jm.eq_1 <| xZ Ja.eq_1 <| xZ Jf.eq_1 <| Ja2.eq_1
 dsimp only[Ja2]
 simp only[Jda]at H
 refine xS ?_
 refine xr ?_
 rcases xB Y G H with⟨p,H,F,G,q⟩|⟨p,H,F,G,q⟩
 ·refine xT ?_
  replace H:=oI H
  refine xr ?_
  subst H
  exact xDn ⟨[1,2,3],[0,0,0]⟩
 replace H:=oI H
 refine xE ?_
 subst H
 exact xDn ⟨[1,2,3],[4,5,6]⟩
noncomputable def X0(a0:List Source)(a1:Int)(a2:List Macro)(a3:Limits):Bool→Option Yp
 | x2=>if x2=true then some (([]:List Token),([]:List Int),([]:List Macro),3,(-1),0) else(JZ a2).bind fun r2=>grB (Jfe a1 a0 a3.Fuel a3.Out a3.Deep a2 ([]:List Int) ([]:List Int) 0 []) (fun r3=>(Jhp 0 (-1) 0).bind fun r4=>(Jhm 0 (-1) 0 r3.2.2.2.2.2 r3.2.2.2.1 r3.2.1).bind fun r5=>some (r5.1,r5.2.1,r5.2.2,0,(-1),0)) (fun e1=>(Jc3 0 0 0 e1.1 e1.2.1 e1.2.2.1).bind fun r6=>(Jda e1.1 e1.2.1 e1.2.2.1 ([]:List Token) ([]:List Int) ([]:List Macro)).bind fun r7=>some (r7.1,r7.2.1,r7.2.2,e1.1,e1.2.1,e1.2.2.1))
noncomputable def JeF(a0:List Source)(a1:Int)(a2:List Macro)(a3:Limits):Bool→Option Yp
 | x1=>if x1=true then some (([]:List Token),([]:List Int),([]:List Macro),6,(-1),0) else if(ltI a3.Fuel 0)=true then X0 a0 a1 a2 a3 true else if(ltI 4000 a3.Fuel)=true then X0 a0 a1 a2 a3 true else if(ltI a3.Out 0)=true then X0 a0 a1 a2 a3 true else if(ltI 1500 a3.Out)=true then X0 a0 a1 a2 a3 true else if(ltI a3.Deep 0)=true then X0 a0 a1 a2 a3 true else X0 a0 a1 a2 a3 (ltI 6 a3.Deep)
noncomputable def Jad(a0:List Source)(a1:Int)(a2:List Macro)(a3:Limits):Option Yp :=
 (Jbw a0).bind fun r1=>if(!eqI r1.Err 0)=true then some (([]:List Token),([]:List Int),([]:List Macro),r1.Err,r1.File,r1.At) else if(ltI a1 0)=true then JeF a0 a1 a2 a3 true else JeF a0 a1 a2 a3 (leI (a0.length:Int) a1)
def Jfp(a0:List Source)(a1:Int)(a2:List Macro)(a3:Limits)(r:Yp):GI :=
 ⟨[.c (.d (.sl 2 (List.map Jg a0))),cI a1,.c (.d (.sl 5 (List.map Jf a2))),.ag [kI a3.Fuel,kI a3.Out,kI a3.Deep]],[],[],.ret (.tu [(true,[.d (.sl 11 (List.map Ja r.1)),.sl 1 (List.map dI r.2.1) 1]),(false,[.d (.sl 5 (List.map Jf r.2.2.1))]),(true,[kI r.2.2.2.1,kI r.2.2.2.2.1,kI r.2.2.2.2.2])]) [] [3]⟩
def Jfq:GI→Prop:=Sg4 Jad Jfp
theorem Jwe:∀ g,Jfq g→Jn Tryz.prog 11 g:=by
 rintro _ ⟨a0,a1,a2,a3,r,H,rfl⟩
 refine xGnl mixed [3,8,12] [(20,Jg6)] [(21,true,J8),(24,false,JgW)] [(23,Jg1),(22,Jg0),(23,Jfg),(22,Jfl)] ⟨⟨JDv,JqH⟩,trivial⟩ ⟨JU,Jb6,trivial⟩ ⟨⟨Jy7,Jqd⟩,⟨Jyz,JpT⟩,⟨Jy7,Jmo⟩,⟨Jyz,JlI⟩,trivial⟩ Tryz.func11 _ ?_
 have G:=True.intro
 have Y:=xZ y_3 <| xZ y_24 <| xZ y_25 <| xZ y_27 <| xZ y_28 <| xZ y_29 <| xZ y_31 <| xZ y_35 <| xZ y_37 <| xZ y_39 <| xZ y_65 <| xZ Tryz.results11 <| xZ Jg.eq_1 <| xZ Jm.eq_1 <| xZ Ja.eq_1 <| xZ Jf.eq_1 <| xZ KF.eq_1 <| xZ J3.eq_1 <| xZ VF.eq_1 <| xZ ZC.eq_1 <| xZ Jc8.eq_1 <| xZ Jdg.eq_1 <| xZ Ja1.eq_1 <| xZ Ja2.eq_1 <| Jfp.eq_1
 dsimp only[Jfp]
 simp only[Jad]at H
 refine xS ?_
 refine xr ?_
 obtain⟨r1,hr1,H⟩:=Jj H
 have F:=xC Y (Juz a0 r1 hr1)
 refine xR ?_
 refine xr ?_
 rcases xB Y G H with⟨p,H,F,G,q⟩|⟨p,H,F,G,q⟩
 ·refine xT ?_
  have F:=Y
  refine xP [0,1,2,3,4] [19] ⟨JU,Jb6,trivial⟩ ?_
  refine xsX 1 ?_
  refine xaX ?_
  refine xbX ?_
  refine xbX ?_
  refine xbX ?_
  refine xlX ?_
  replace H:=oI H
  refine xS ?_
  subst H
  refine xrD [] ?_
  exact xO ⟨[],[0]⟩
 refine xE0 ?_
 refine V0 ?_
 refine Jk ?_
 refine Kv ?_
 refine Jas ?_
 refine Jo (JeF a0 a1 a2 a3) (fun s=>[(0,.c (.d (.sl 2 (List.map Jg a0)))),(1,cI a1),(2,.c (.d (.sl 5 (List.map Jf a2)))),(7,.c (.pt 1 0)),(8,.c (.pt 2 0)),(9,.c (.pt 3 0)),(10,.c (.pt 4 0)),(20,cB s)]) (fun s=>[[kI a3.Fuel,kI a3.Out,kI a3.Deep],[.sl 11 [] 0,.sl 1 [] 0],[.sl 5 [] 0],[kI 0,kI 0,kI 0]]) [] r ?_ ?_
 ·rcases xB Y G H with⟨p,H,F,G,q⟩|⟨p,H,F,G,q⟩
  ·refine xR ?_
   exact Jb H (xK ⟨[1,2,3,4],[]⟩)
  refine xR ?_
  exact Jb H (xK ⟨[1,2,3,4],[]⟩)
 rintro x1 H
 rw[JeF]at H
 rcases xB Y G H with⟨p,H,F,G,q⟩|⟨p,H,F,G,q⟩
 ·refine xT ?_
  replace H:=oI H
  refine xr ?_
  subst H
  refine xrD [] ?_
  exact xO ⟨[],[0]⟩
 refine xE0 ?_
 refine Jo (X0 a0 a1 a2 a3) (fun s=>[(0,.c (.d (.sl 2 (List.map Jg a0)))),(1,cI a1),(2,.c (.d (.sl 5 (List.map Jf a2)))),(7,.c (.pt 1 0)),(8,.c (.pt 2 0)),(9,.c (.pt 3 0)),(10,.c (.pt 4 0)),(31,cB s)]) (fun s=>[[kI a3.Fuel,kI a3.Out,kI a3.Deep],[.sl 11 [] 0,.sl 1 [] 0],[.sl 5 [] 0],[kI 0,kI 0,kI 0]]) [] r ?_ ?_
 ·rcases xB Y G H with⟨p,H,F,G,q⟩|⟨p,H,F,G,q⟩
  ·refine xR ?_
   exact Jb H (xK ⟨[1,2,3,4],[]⟩)
  rcases xB F G H with⟨p,H,F,G,q⟩|⟨p,H,F,G,q⟩
  ·refine xR ?_
   exact Jb H (xK ⟨[1,2,3,4],[]⟩)
  rcases xB F G H with⟨p,H,F,G,q⟩|⟨p,H,F,G,q⟩
  ·refine xR ?_
   exact Jb H (xK ⟨[1,2,3,4],[]⟩)
  rcases xB F G H with⟨p,H,F,G,q⟩|⟨p,H,F,G,q⟩
  ·refine xR ?_
   exact Jb H (xK ⟨[1,2,3,4],[]⟩)
  rcases xB F G H with⟨p,H,F,G,q⟩|⟨p,H,F,G,q⟩
  ·refine xR ?_
   exact Jb H (xK ⟨[1,2,3,4],[]⟩)
  refine xR ?_
  exact Jb H (xK ⟨[1,2,3,4],[]⟩)
 rintro x2 H
 rw[X0]at H
 rcases xB Y G H with⟨p,H,F,G,q⟩|⟨p,H,F,G,q⟩
 ·refine xT ?_
  replace H:=oI H
  refine xr ?_
  subst H
  refine xrD [] ?_
  exact xO ⟨[],[0]⟩
 refine xE ?_
 obtain⟨r2,hr2,H⟩:=Jj H
 have F:=Y
 refine xP [0,1,2,3,4,5,6] [63] ⟨JU,Jb6,trivial⟩ ?_
 refine xsX 1 ?_
 refine xaX ?_
 refine xsX 1 ?_
 refine xcX ⟨[],[]⟩ (tabG 0 (cg1 hr2)) ?_
 refine xsX 1 ?_
 refine xbX ?_
 refine xsX 1 ?_
 refine xlX ?_
 refine xS ?_
 refine xfz 5 5 (List.map Jf a2) [] ?_
 have F:=Y
 refine xQ ?_
 refine xs 1 ?_
 refine xw ?_
 refine xl ?_
 refine xS ?_
 have F:=Y
 refine xQ ?_
 refine xw ?_
 refine xl ?_
 refine xS ?_
 rcases Jae H with⟨r3,hr3,H⟩|⟨e1,hr4,H⟩
 ·have F:=Y
  refine xQ ?_
  refine xs 2 ?_
  refine xc ⟨[6,0],[0,0]⟩ (tabG 1 (cg10 hr3)) ?_
  refine xl ?_
  refine xS ?_
  refine xfz 9 11 (List.map Ja r3.2.2.2.2.2) [] ?_
  have F:=Y
  refine xP [0,1,2,3,4,5,6,7,8,9,10,11] [79] ⟨JU,Jb6,trivial⟩ ?_
  refine xsX 7 ?_
  refine xaX ?_
  refine xsX 1 ?_
  refine xbX ?_
  refine xbX ?_
  refine xbX ?_
  refine xlX ?_
  refine xS ?_
  refine xrD [(23,[.pt 4 0]),(22,[.pt 4 0,.pt 2 0,.pt 3 0])] ?_
  obtain⟨r4,hr5,H⟩:=Jj H
  refine xD ⟨[4],[]⟩ (tabD 0 (JqP 0 (-1) 0 r4 hr5)) ?_
  obtain⟨r5,hr6,H⟩:=Jj H
  refine xD ⟨[4,2,3],[11]⟩ (tabD 1 (JqR 0 (-1) 0 r3.2.2.2.2.2 r3.2.2.2.1 r3.2.1 r5 none hr6)) ?_
  replace H:=oI H
  subst H
  exact xO ⟨[],[16]⟩
 have F:=Y
 refine xQp [69,70,71] ?_
 refine xs 2 ?_
 refine xp ⟨[6,0],[0,0]⟩ (tabG 1 (cg10 hr4)) ?_
 refine xS ?_
 refine xpD [(23,[.pt 4 0]),(22,[.pt 4 0,.pt 2 0,.pt 3 0])] ?_
 obtain⟨r6,hr7,H⟩:=Jj H
 refine xD ⟨[4],[]⟩ (tabD 2 (JnI 0 0 0 e1.1 e1.2.1 e1.2.2.1 r6 hr7)) ?_
 obtain⟨r7,hr8,H⟩:=Jj H
 refine xD ⟨[4,2,3],[0,0,0]⟩ (tabD 3 (JnC e1.1 e1.2.1 e1.2.2.1 ([]:List Token) ([]:List Int) ([]:List Macro) r7 none hr8)) ?_
 replace H:=oI H
 subst H
 exact xO ⟨[],[17]⟩
theorem JnZ:Jd Tryz.prog 11∧(∀ g,Jfq g→Jn Tryz.prog 11 g)∧(true=true→∀ g,Jfq g→∃ val bs ts,g.out=.ret val bs ts) :=
 ⟨JEz,Jwe,fun _=>by rintro _ ⟨_,_,_,_,_,_,rfl⟩; exact⟨_,_,_,rfl⟩⟩
end Go.Proofs.YtfkhlbhjhdpkoaaGreatDoor
