/- Functions of data for functions of the program. Written by dec3.py. -/
import Derived.Test.YtfkhlbhjhdpkoaaGreatDoorZpbc
set_option linter.unusedVariables false
set_option linter.unusedSimpArgs false
set_option maxHeartbeats 4000000
set_option maxRecDepth 100000
namespace Go.Proofs.YtfkhlbhjhdpkoaaGreatDoor
open Go.RowKit
noncomputable def VC(a0:List Token):YL→Option YB
 | (x1,x2)=>if(leI 0 x1)=true then if(0:Int)≤x1∧x1.toNat<a0.length then if(x2.length + [(a0.getD x1.toNat default)].length) * 120≤140737488355328 then some (.inl (IntKind.i64.wrap (x1-1),x2++[(a0.getD x1.toNat default)])) else none else none else inrO (some x2)
noncomputable def Jaq(a0 a1:List Token):Option (List Token) :=
 Jy (VC a0) (IntKind.i64.wrap ((a0.length:Int)-1),a1)
def Jbs(a0 a1:List Token)(r:(List Token)):GI :=
 ⟨[.c (.pt 1 0),.c (.d (.sl 11 (List.map Ja a0)))],[[.os 2 11 0 a1.length],[.arr 11 (List.map Ja a1)]],[],.ret (.tu []) [[.os 3 11 0 r.length],[],[.arr 11 (List.map Ja r)]] []⟩
def Jbv:GI→Prop:=Sg2 Jaq Jbs
theorem Jja:∀ g,Jbv g→Jn Tryz.prog 121 g:=by
 rintro _ ⟨a0,a1,r,H,rfl⟩
 refine xGn mixed [] [] [] trivial trivial trivial Tryz.func121 _ ?_
 have G:=True.intro
 have Y:=xZ y_24 <| xZ y_44 <| xZ Jnm <| xZ Tryz.results121 <| xZ Jl.eq_1 <| xZ Ja.eq_1 <| Jbs.eq_1
 dsimp only[Jbs]
 simp only[Jaq]at H
 refine xS ?_
 refine xrn 2 1 ?_
 refine xr ?_
 refine JZ (VC a0) (fun s=>[(0,.c (.pt 1 0)),(1,.c (.d (.sl 11 (List.map Ja a0)))),(4,cI s.1)]) (fun s=>[[.os 3 11 0 s.2.length],[],[.arr 11 (List.map Ja s.2)]]) [] H (xK ⟨[1,2,3],[]⟩) ?_
 rintro n1 ⟨x1,x2⟩ o1 H hF1
 rw[VC]at H
 refine xS ?_
 refine xr ?_
 rcases xB Y G H with⟨p,H,F,G,q⟩|⟨p,H,F,G,q⟩
 ·refine xT ?_
  obtain⟨g,H⟩:=Jd H
  have F:=xZ Y (Ji Ja a0 x1.toNat default default (by omega))
  obtain⟨g,H⟩:=Jd H
  have F:=xZ F (JQ KV [(a0.getD x1.toNat default)])
  have L:[(a0.getD x1.toNat default)].length=1:=rfl
  refine xR ?_
  refine xr ?_
  exact JA (JF H hF1) (xK ⟨[1,2,4],[]⟩)
 replace H:=Js H hF1
 replace H:=oI H
 refine xE ?_
 subst H
 refine xnD [] ?_
 exact xO ⟨[1,2,3],[]⟩
theorem Jkk:Jc Tryz.prog 121∧(∀ g,Jbv g→Jn Tryz.prog 121 g)∧(true=true→∀ g,Jbv g→∃ val bs ts,g.out=.ret val bs ts) :=
 ⟨JtO,Jja,fun _=>by rintro _ ⟨_,_,_,_,rfl⟩; exact⟨_,_,_,rfl⟩⟩
noncomputable def Jgo(a0 a1:Int)(a2:List UInt8)(a3 a4:Bool)(a5 a6 a7 a8:Int)(a9:List (List UInt8))(a10:List Call)(a11:Int):Option Unit :=
 some ()
def Jc9(a0 a1:Int)(a2:List UInt8)(a3 a4:Bool)(a5 a6 a7 a8:Int)(a9:List (List UInt8))(a10:List Call)(a11:Int)(r:Unit):GI :=
 ⟨[cI a0,.c (.pt 1 0)],[[kI a1,kS a2,kB a3,kB a4,kI a5,kI a6,kI a7,kI a8,.d (.sl 1 (List.map dS a9)),.d (.sl 3 (List.map Jl a10)),kI a11]],[],.pan (.iface 170 (.agg ⟨[.int .i64 a0,.int .i64 a5,.int .i64 a6]⟩)) [[kI a1,kS a2,kB a3,kB a4,kI a5,kI a6,kI a7,kI a8,.d (.sl 1 (List.map dS a9)),.d (.sl 3 (List.map Jl a10)),kI a11]] []⟩
def Jdd:GI→Prop:=Sg12 Jgo Jc9
theorem Jo4:∀ g,Jdd g→Jn Tryz.prog 125 g:=by
 rintro _ ⟨a0,a1,a2,a3,a4,a5,a6,a7,a8,a9,a10,a11,r,H,rfl⟩
 refine xGn mixed [] [] [] trivial trivial trivial Tryz.func125 _ ?_
 have G:=True.intro
 have Y:=xZ y_3 <| xZ y_29 <| xZ y_31 <| xZ y_44 <| xZ Jyj <| xZ Tryz.results125 <| xZ Jl.eq_1 <| xZ Ja.eq_1 <| Jc9.eq_1
 dsimp only[Jc9]
 unfold Jgo at H
 have F:=Y
 refine xQp [4,5,6,7,8,9,10,11,12,13,14,15] ?_
 refine xs 12 ?_
 refine xv ?_
 refine xS ?_
 refine xpD [] ?_
 exact xOv ⟨[1],[]⟩
theorem Jj6:Jc Tryz.prog 125∧(∀ g,Jdd g→Jn Tryz.prog 125 g)∧(false=true→∀ g,Jdd g→∃ val bs ts,g.out=.ret val bs ts) :=
 ⟨JAd,Jo4,nofun⟩
noncomputable def JaK(a0:List Macro)(a1:List Source)(a2 a3 a4:Int)(a5:List UInt8)(a6 a7:Bool)(a8 a9 a10 a11:Int)(a12:List (List UInt8))(a13:List Call)(a14:Int):Option (GR Unit Int) :=
 if(eqI a2 0)=true then(Jgo 11 a4 a5 a6 a7 a8 a9 a10 a11 a12 a13 a14).bind fun e1=>some (.er ()) else some (.ok (IntKind.i64.wrap (a2-1)))
def Jh5(a0:List Macro)(a1:List Source)(a2 a3 a4:Int)(a5:List UInt8)(a6 a7:Bool)(a8 a9 a10 a11:Int)(a12:List (List UInt8))(a13:List Call)(a14:Int):GR Unit Int→GOut
 | .ok r=>.ret (.tu []) [[.d (.sl 5 (List.map Je a0)),.d (.sl 2 (List.map Jf a1)),kI r,kI a3],[kI a4,kS a5,kB a6,kB a7,kI a8,kI a9,kI a10,kI a11,.d (.sl 1 (List.map dS a12)),.d (.sl 3 (List.map Jl a13)),kI a14]] []
 | .er r=>.pan (.iface 170 (.agg ⟨[.int .i64 11,.int .i64 a8,.int .i64 a9]⟩)) [[.d (.sl 5 (List.map Je a0)),.d (.sl 2 (List.map Jf a1)),kI a2,kI a3],[kI a4,kS a5,kB a6,kB a7,kI a8,kI a9,kI a10,kI a11,.d (.sl 1 (List.map dS a12)),.d (.sl 3 (List.map Jl a13)),kI a14]] []
def Zu(a0:List Macro)(a1:List Source)(a2 a3 a4:Int)(a5:List UInt8)(a6 a7:Bool)(a8 a9 a10 a11:Int)(a12:List (List UInt8))(a13:List Call)(a14:Int)(r:GR Unit Int):GI :=
 ⟨[.c (.pt 1 0),.c (.pt 2 0)],[[.d (.sl 5 (List.map Je a0)),.d (.sl 2 (List.map Jf a1)),kI a2,kI a3],[kI a4,kS a5,kB a6,kB a7,kI a8,kI a9,kI a10,kI a11,.d (.sl 1 (List.map dS a12)),.d (.sl 3 (List.map Jl a13)),kI a14]],[],Jh5 a0 a1 a2 a3 a4 a5 a6 a7 a8 a9 a10 a11 a12 a13 a14 r⟩
def Zv:GI→Prop:=Sg15 JaK Zu
theorem JhL:∀ g,Zv g→Jn Tryz.prog 123 g:=by
 rintro _ ⟨a0,a1,a2,a3,a4,a5,a6,a7,a8,a9,a10,a11,a12,a13,a14,r,H,rfl⟩
 refine xGn mixed [] [(125,false,Jdd)] [] trivial ⟨Jj6,trivial⟩ trivial Tryz.func123 _ ?_
 have G:=True.intro
 have Y:=xZ y_3 <| xZ Jts <| xZ Tryz.results123 <| xZ Jf.eq_1 <| xZ Jl.eq_1 <| xZ Ja.eq_1 <| xZ Je.eq_1 <| xZ Jc9.eq_1 <| Zu.eq_1
 dsimp only[Zu]
 simp only[JaK]at H
 refine xS ?_
 refine xr ?_
 rcases xB Y G H with⟨p,H,F,G,q⟩|⟨p,H,F,G,q⟩
 ·refine xT ?_
  obtain⟨e1,hr2,H⟩:=Jj H
  have F:=Y
  refine xQp [9,10] ?_
  refine xs 1 ?_
  refine xp ⟨[2],[]⟩ (tabG 0 (cg12 hr2)) ?_
  replace H:=oI H
  refine xS ?_
  subst H
  refine xpD [] ?_
  exact xOv ⟨[1,2],[]⟩
 refine xE ?_
 replace H:=oI H
 refine xr ?_
 subst H
 refine xnD [] ?_
 exact xO ⟨[1,2],[]⟩
theorem Jim:Jc Tryz.prog 123∧(∀ g,Zv g→Jn Tryz.prog 123 g)∧(false=true→∀ g,Zv g→∃ val bs ts,g.out=.ret val bs ts) :=
 ⟨JAQ,JhL,nofun⟩
noncomputable def XG:(Int×(List UInt8)×(List UInt8))→Option YD
 | (x1,x2,x3)=>some (x1,x2,3,true)
noncomputable def XC:((List UInt8)×(List UInt8))→Option YD
 | (x4,x5)=>if 1+x4.length≤9223372036854775807 then if 1+x4.length+1≤9223372036854775807 then XG (4,([34]++x4)++[34],x5) else none else none
noncomputable def Xw(a0:Token)(a2:List Source):((List UInt8)×Bool×(List UInt8))→Option YD
 | (x6,x7,x8)=>if x7=true then if(0:Int)≤a0.File∧a0.File.toNat<a2.length then XC ((a2.getD a0.File.toNat default).Path,x8) else none else XC (x6,x8)
noncomputable def J8(a0:Token)(a1:List Macro)(a2:List Source)(a3 a4:Int):Option YD :=
 if(eqS a0.Text [95,95,76,73,78,69,95,95])=true then(VP a0.Line).bind fun r1=>XG (2,r1,[]) else if(eqS a0.Text [95,95,70,73,76,69,95,95])=true then if(leI 0 a0.File)=true then Xw a0 a2 ([],ltI a0.File (a2.length:Int),[]) else Xw a0 a2 ([],false,[]) else some (a0.Kind,a0.Text,a0.Made,false)
def X1(a0:Token)(a1:List Macro)(a2:List Source)(a3 a4:Int)(r:YD):GI :=
 ⟨[.c (.pt 1 0),.ag [kI a0.Kind,kS a0.Text,kB a0.Space,kB a0.First,kI a0.File,kI a0.At,kI a0.End,kI a0.Line,.d (.sl 1 (List.map dS a0.Hide)),.d (.sl 3 (List.map Jl a0.Calls)),kI a0.Made]],[[.d (.sl 5 (List.map Je a1)),.d (.sl 2 (List.map Jf a2)),kI a3,kI a4]],[],.ret (.tu [(true,[kI r.1,kS r.2.1,kB a0.Space,kB a0.First,kI a0.File,kI a0.At,kI a0.End,kI a0.Line,.d (.sl 1 (List.map dS a0.Hide)),.d (.sl 3 (List.map Jl a0.Calls)),kI r.2.2.1]),(false,[kB r.2.2.2])]) [[.d (.sl 5 (List.map Je a1)),.d (.sl 2 (List.map Jf a2)),kI a3,kI a4]] []⟩
def X2:GI→Prop:=Sg5 J8 X1
theorem Jhx:∀ g,X2 g→Jn Tryz.prog 124 g:=by
 rintro _ ⟨a0,a1,a2,a3,a4,r,H,rfl⟩
 refine xGn mixed [(13,JbS)] [] [] ⟨⟨Jxx,JhW⟩,trivial⟩ trivial trivial Tryz.func124 _ ?_
 have G:=True.intro
 have Y:=xZ y_3 <| xZ y_9 <| xZ y_35 <| xZ y_37 <| xZ y_44 <| xZ Jts <| xZ Tryz.results124 <| xZ Jf.eq_1 <| xZ Jl.eq_1 <| xZ Ja.eq_1 <| xZ Je.eq_1 <| X1.eq_1
 dsimp only[X1]
 simp only[J8]at H
 refine xS ?_
 refine xr0 ?_
 refine Jm ?_
 refine Jp XG (fun s=>[(3,.c (.pt 2 0)),(4,.c (.pt 3 0))]) (fun s=>[[.d (.sl 5 (List.map Je a1)),.d (.sl 2 (List.map Jf a2)),kI a3,kI a4],[kI s.1,kS s.2.1,kB a0.Space,kB a0.First,kI a0.File,kI a0.At,kI a0.End,kI a0.Line,.d (.sl 1 (List.map dS a0.Hide)),.d (.sl 3 (List.map Jl a0.Calls)),kI a0.Made],[kI 0,kS s.2.2,kB false,kB false,kI 0,kI 0,kI 0,kI 0,.sl 1 [] 0,.sl 3 [] 0,kI 0]]) [] r ?_ ?_
 ·refine xS ?_
  refine xr ?_
  refine xr ?_
  rcases xB Y G H with⟨p,H,F,G,q⟩|⟨p,H,F,G,q⟩
  ·refine xT ?_
   obtain⟨r1,hr1,H⟩:=Jj H
   have F:=xC Y (JfU a0.Line r1 hr1)
   refine xR ?_
   exact Jb H (xK ⟨[1,2,3],[]⟩)
  refine xE ?_
  refine xr ?_
  rcases xB Y G H with⟨p,H,F,G,q⟩|⟨p,H,F,G,q⟩
  ·refine xT ?_
   refine xr0 ?_
   refine Jm ?_
   refine Jp XC (fun s=>[(3,.c (.pt 2 0)),(4,.c (.pt 3 0)),(6,cS s.1)]) (fun s=>[[.d (.sl 5 (List.map Je a1)),.d (.sl 2 (List.map Jf a2)),kI a3,kI a4],[kI a0.Kind,kS a0.Text,kB a0.Space,kB a0.First,kI a0.File,kI a0.At,kI a0.End,kI a0.Line,.d (.sl 1 (List.map dS a0.Hide)),.d (.sl 3 (List.map Jl a0.Calls)),kI a0.Made],[kI 0,kS s.2,kB false,kB false,kI 0,kI 0,kI 0,kI 0,.sl 1 [] 0,.sl 3 [] 0,kI 0]]) [] r ?_ ?_
   ·refine Jp (Xw a0 a2) (fun s=>[(0,.c (.pt 1 0)),(3,.c (.pt 2 0)),(4,.c (.pt 3 0)),(6,cS s.1),(31,cB s.2.1)]) (fun s=>[[.d (.sl 5 (List.map Je a1)),.d (.sl 2 (List.map Jf a2)),kI a3,kI a4],[kI a0.Kind,kS a0.Text,kB a0.Space,kB a0.First,kI a0.File,kI a0.At,kI a0.End,kI a0.Line,.d (.sl 1 (List.map dS a0.Hide)),.d (.sl 3 (List.map Jl a0.Calls)),kI a0.Made],[kI 0,kS s.2.2,kB false,kB false,kI 0,kI 0,kI 0,kI 0,.sl 1 [] 0,.sl 3 [] 0,kI 0]]) [] r ?_ ?_
    ·rcases xB Y G H with⟨p,H,F,G,q⟩|⟨p,H,F,G,q⟩
     ·refine xR ?_
      exact Jb H (xK ⟨[1,2,3],[]⟩)
     refine xR ?_
     exact Jb H (xK ⟨[1,2,3],[]⟩)
    rintro ⟨x6,x7,x8⟩ H
    rw[Xw]at H
    rcases xB Y G H with⟨p,H,F,G,q⟩|⟨p,H,F,G,q⟩
    ·refine xT ?_
     obtain⟨g,H⟩:=Jd H
     have F:=xZ Y (Ji Jf a2 a0.File.toNat default default (by omega))
     refine xR ?_
     exact Jb H (xK ⟨[1,2,3],[]⟩)
    refine xE ?_
    exact Jb H (xK ⟨[1,2,3],[]⟩)
   rintro ⟨x4,x5⟩ H
   rw[XC]at H
   obtain⟨g,H⟩:=Jd H
   obtain⟨g,H⟩:=Jd H
   refine xr ?_
   exact Jb H (xK ⟨[1,2,3],[]⟩)
  refine xE ?_
  replace H:=oI H
  refine xr ?_
  subst H
  refine xrD [] ?_
  exact xO ⟨[1],[]⟩
 rintro ⟨x1,x2,x3⟩ H
 rw[XG]at H
 refine xS ?_
 refine xr ?_
 replace H:=oI H
 refine xr ?_
 subst H
 refine xrD [] ?_
 exact xO ⟨[1],[]⟩
theorem JhJ:Jc Tryz.prog 124∧(∀ g,X2 g→Jn Tryz.prog 124 g)∧(true=true→∀ g,X2 g→∃ val bs ts,g.out=.ret val bs ts) :=
 ⟨JBI,Jhx,fun _=>by rintro _ ⟨_,_,_,_,_,_,_,rfl⟩; exact⟨_,_,_,rfl⟩⟩
noncomputable def Xu(a0:List (List UInt8))(a1:List UInt8):(Int×Int)→Option YS
 | (x1,x2)=>if(ltI x2 x1)=true then if(0:Int)≤x2∧x2.toNat<a0.length then if(eqS a1 (a0.getD x2.toNat default))=true then inrO (some x2) else some (.inl (x1,IntKind.i64.wrap (x2+1))) else none else inrO (some (-1))
noncomputable def Ko(a0:List (List UInt8))(a1:List UInt8):Option Int :=
 Jy (Xu a0 a1) ((a0.length:Int),0)
noncomputable def Ky:PF:=PF.of (E2 (dL 1 dS) dS) (fun a=>Ko a.1 a.2) dI
theorem Xt:JE Tryz.prog 129 Ky:=by
 refine xF mixed [] [] trivial trivial Tryz.func129 ?_
 rintro ⟨a0,a1⟩ out H
 have G:=True.intro
 have Y:=xZ y_9 <| xZ y_41 <| Tryz.results129
 simp only[Ko]at H
 refine xS ?_
 refine xr ?_
 refine xr ?_
 refine JZ (Xu a0 a1) (fun s=>[(0,.c (.d (.sl 1 (List.map dS a0)))),(1,cS a1),(7,cI s.1),(8,cI s.2)]) (fun s=>[]) [] H (xK ⟨[],[]⟩) ?_
 rintro n1 ⟨x1,x2⟩ o1 H hF1
 rw[Xu]at H
 refine xS ?_
 refine xr ?_
 rcases xB Y G H with⟨p,H,F,G,q⟩|⟨p,H,F,G,q⟩
 ·refine xT ?_
  refine xr ?_
  obtain⟨g,H⟩:=Jd H
  have F:=xZ Y (Ji dS a0 x2.toNat default default (by omega))
  refine xR ?_
  rcases xB Y G H with⟨p,H,F,G,q⟩|⟨p,H,F,G,q⟩
  ·refine xT ?_
   replace H:=Js H hF1
   replace H:=oI H
   refine xr ?_
   subst H
   exact xN
  refine xE ?_
  refine xr ?_
  exact JA (JF H hF1) (xK ⟨[],[]⟩)
 replace H:=Js H hF1
 refine xE ?_
 replace H:=oI H
 refine xr ?_
 subst H
 exact xN
theorem XA(a0:List (List UInt8))(a1:List UInt8)(r:Int)(H:Ko a0 a1=some r):PC Ky [(dL 1 dS) a0,dS a1] (dI r):=PF.c (a:=(a0,a1)) H
noncomputable def Kw(a0:List (List UInt8))(a1:List UInt8):Option Bool :=
 (Ko a0 a1).bind fun r1=>some (leI 0 r1)
noncomputable def VG:PF:=PF.of (E2 (dL 1 dS) dS) (fun a=>Kw a.1 a.2) dB
theorem Jel:JE Tryz.prog 108 VG:=by
 refine xF mixed [(129,Ky)] [] ⟨⟨JmR,Xt⟩,trivial⟩ trivial Tryz.func108 ?_
 rintro ⟨a0,a1⟩ out H
 have G:=True.intro
 have Y:=Tryz.results108
 simp only[Kw]at H
 refine xS ?_
 refine xr ?_
 obtain⟨r1,hr1,H⟩:=Jj H
 have F:=xC Y (XA a0 a1 r1 hr1)
 replace H:=oI H
 refine xR ?_
 subst H
 exact xN
theorem Jev(a0:List (List UInt8))(a1:List UInt8)(r:Bool)(H:Kw a0 a1=some r):PC VG [(dL 1 dS) a0,dS a1] (dB r):=PF.c (a:=(a0,a1)) H
noncomputable def Jfm(a0:Macro)(a1:List UInt8):Option Bool :=
 some (eqS a0.Name a1)
def Jeb(a0:Macro)(a1:List UInt8)(r:Bool):GI :=
 ⟨[.ag [kS a0.Name,kB a0.Call,.d (.sl 1 (List.map dS a0.Params)),kB a0.More,.d (.sl 11 (List.map Ja a0.Body))],.c (.pt 1 0)],[[kS a1]],[],.ret (cB r) [[kS a1]] []⟩
def Jef:GI→Prop:=Sg2 Jfm Jeb
theorem JnV:∀ g,Jef g→Jn Tryz.prog 110 g:=by
 rintro _ ⟨a0,a1,r,H,rfl⟩
 refine xGn mixed [] [] [] trivial trivial trivial Tryz.func110 _ ?_
 have G:=True.intro
 have Y:=xZ y_9 <| xZ y_63 <| xZ Tryz.results110 <| xZ Jl.eq_1 <| xZ Ja.eq_1 <| xZ Je.eq_1 <| Jeb.eq_1
 dsimp only[Jeb]
 simp only[Jfm]at H
 refine xS ?_
 refine xr ?_
 replace H:=oI H
 refine xr ?_
 subst H
 refine xrD [] ?_
 exact xO ⟨[1],[]⟩
theorem Jpw:Jc Tryz.prog 110∧(∀ g,Jef g→Jn Tryz.prog 110 g)∧(true=true→∀ g,Jef g→∃ val bs ts,g.out=.ret val bs ts) :=
 ⟨JA6,JnV,fun _=>by rintro _ ⟨_,_,_,_,rfl⟩; exact⟨_,_,_,rfl⟩⟩
noncomputable def Kc(a0:List Macro)(a1:List UInt8):(Int×Int)→Option YS
 | (x1,x2)=>if(ltI x2 x1)=true then if(0:Int)≤x2∧x2.toNat<a0.length then(Jfm (a0.getD x2.toNat default) a1).bind fun r1=>if r1=true then inrO (some x2) else some (.inl (x1,IntKind.i64.wrap (x2+1))) else none else inrO (some (-1))
noncomputable def Ku(a0:List Macro)(a1:List UInt8):Option Int :=
 Jy (Kc a0 a1) ((a0.length:Int),0)
def Ki(a0:List Macro)(a1:List UInt8)(r:Int):GI :=
 ⟨[.c (.d (.sl 5 (List.map Je a0))),.c (.clo 110 [1])],[[kS a1]],[],.ret (cI r) [[kS a1]] []⟩
def Kg:GI→Prop:=Sg2 Ku Ki
theorem JcG:∀ g,Kg g→Jn Tryz.prog 109 g:=by
 rintro _ ⟨a0,a1,r,H,rfl⟩
 refine xGn mixed [] [(110,true,Jef)] [] trivial ⟨Jpw,trivial⟩ trivial Tryz.func109 _ ?_
 have G:=True.intro
 have Y:=xZ y_28 <| xZ y_63 <| xZ Tryz.results109 <| xZ Jl.eq_1 <| xZ Ja.eq_1 <| xZ Je.eq_1 <| xZ Jeb.eq_1 <| Ki.eq_1
 dsimp only[Ki]
 simp only[Ku]at H
 refine xS ?_
 refine xr ?_
 refine xr ?_
 refine JZ (Kc a0 a1) (fun s=>[(0,.c (.d (.sl 5 (List.map Je a0)))),(1,.c (.clo 110 [1])),(7,cI s.1),(8,cI s.2)]) (fun s=>[[kS a1]]) [] H (xK ⟨[1],[]⟩) ?_
 rintro n1 ⟨x1,x2⟩ o1 H hF1
 rw[Kc]at H
 refine xS ?_
 refine xr ?_
 rcases xB Y G H with⟨p,H,F,G,q⟩|⟨p,H,F,G,q⟩
 ·refine xT ?_
  refine xr ?_
  obtain⟨g,H⟩:=Jd H
  have F:=xZ Y (Ji Je a0 x2.toNat default default (by omega))
  obtain⟨r1,hr1,H⟩:=Jj H
  have F:=F
  refine xQ ?_
  refine xs 5 ?_
  refine xc ⟨[1],[]⟩ (tabG 0 (cg2 hr1)) ?_
  refine xl ?_
  refine xS ?_
  rcases xB Y G H with⟨p,H,F,G,q⟩|⟨p,H,F,G,q⟩
  ·refine xT ?_
   replace H:=Js H hF1
   replace H:=oI H
   refine xr ?_
   subst H
   refine xrD [] ?_
   exact xO ⟨[1],[]⟩
  refine xE ?_
  refine xr ?_
  exact JA (JF H hF1) (xK ⟨[1],[]⟩)
 replace H:=Js H hF1
 refine xE ?_
 replace H:=oI H
 refine xr ?_
 subst H
 refine xrD [] ?_
 exact xO ⟨[1],[]⟩
theorem JcN:Jc Tryz.prog 109∧(∀ g,Kg g→Jn Tryz.prog 109 g)∧(true=true→∀ g,Kg g→∃ val bs ts,g.out=.ret val bs ts) :=
 ⟨JAS,JcG,fun _=>by rintro _ ⟨_,_,_,_,rfl⟩; exact⟨_,_,_,rfl⟩⟩
noncomputable def KB(a0:List Macro)(a1:List UInt8):Option Int :=
 (Ku a0 a1).bind fun r1=>some r1
noncomputable def Jc7:PF:=PF.of (E2 (dL 5 Je) dS) (fun a=>KB a.1 a.2) dI
theorem JgD:JE Tryz.prog 86 Jc7:=by
 refine xF mixed [] [(109,true,Kg)] trivial ⟨JcN,trivial⟩ Tryz.func86 ?_
 rintro ⟨a0,a1⟩ out H
 have G:=True.intro
 have Y:=xZ Tryz.results86 <| xZ Jl.eq_1 <| xZ Ja.eq_1 <| xZ Je.eq_1 <| Ki.eq_1
 simp only[KB]at H
 refine xS ?_
 refine xr ?_
 obtain⟨r1,hr1,H⟩:=Jj H
 have F:=Y
 refine xQ ?_
 refine xs 2 ?_
 refine xc ⟨[1],[]⟩ (tabG 0 (cg2 hr1)) ?_
 refine xs 1 ?_
 refine xl ?_
 replace H:=oI H
 refine xS ?_
 subst H
 exact xN
theorem Jht(a0:List Macro)(a1:List UInt8)(r:Int)(H:KB a0 a1=some r):PC Jc7 [(dL 5 Je) a0,dS a1] (dI r):=PF.c (a:=(a0,a1)) H
noncomputable def Jhe(a0:Macro)(a1:Int)(a2:List UInt8)(a3 a4:Bool)(a5 a6 a7 a8:Int)(a9:List (List UInt8))(a10:List Call)(a11:Int):Option Int :=
 if(!eqI a1 1)=true then some (-1) else(Ko a0.Params a2).bind fun r1=>some r1
def JdV(a0:Macro)(a1:Int)(a2:List UInt8)(a3 a4:Bool)(a5 a6 a7 a8:Int)(a9:List (List UInt8))(a10:List Call)(a11 r:Int):GI :=
 ⟨[.c (.pp (List.drop 0 (Je a0).cells)),.c (.pt 1 0)],[[kI a1,kS a2,kB a3,kB a4,kI a5,kI a6,kI a7,kI a8,.d (.sl 1 (List.map dS a9)),.d (.sl 3 (List.map Jl a10)),kI a11]],[],.ret (cI r) [[kI a1,kS a2,kB a3,kB a4,kI a5,kI a6,kI a7,kI a8,.d (.sl 1 (List.map dS a9)),.d (.sl 3 (List.map Jl a10)),kI a11]] []⟩
def Jd6:GI→Prop:=Sg12 Jhe JdV
theorem JnR:∀ g,Jd6 g→Jn Tryz.prog 163 g:=by
 rintro _ ⟨a0,a1,a2,a3,a4,a5,a6,a7,a8,a9,a10,a11,r,H,rfl⟩
 refine xGn mixed [(129,Ky)] [] [] ⟨⟨JmR,Xt⟩,trivial⟩ trivial trivial Tryz.func163 _ ?_
 have G:=True.intro
 have Y:=xZ y_3 <| xZ y_9 <| xZ y_41 <| xZ y_44 <| xZ y_63 <| xZ Tryz.results163 <| xZ Jl.eq_1 <| xZ Ja.eq_1 <| xZ Je.eq_1 <| JdV.eq_1
 dsimp only[JdV]
 simp only[Jhe]at H
 refine xS ?_
 refine xr ?_
 refine xr ?_
 rcases xB Y G H with⟨p,H,F,G,q⟩|⟨p,H,F,G,q⟩
 ·refine xT ?_
  replace H:=oI H
  refine xr ?_
  subst H
  refine xrD [] ?_
  exact xO ⟨[1],[]⟩
 refine xE ?_
 obtain⟨r1,hr1,H⟩:=Jj H
 have F:=xC Y (XA a0.Params a2 r1 hr1)
 replace H:=oI H
 refine xR ?_
 subst H
 refine xrD [] ?_
 exact xO ⟨[1],[]⟩
theorem Jpz:Jc Tryz.prog 163∧(∀ g,Jd6 g→Jn Tryz.prog 163 g)∧(true=true→∀ g,Jd6 g→∃ val bs ts,g.out=.ret val bs ts) :=
 ⟨JvM,JnR,fun _=>by rintro _ ⟨_,_,_,_,_,_,_,_,_,_,_,_,_,_,rfl⟩; exact⟨_,_,_,rfl⟩⟩
noncomputable def Jfg(a0:Macro)(a1:Token):Option Int :=
 if(!eqI a1.Kind 1)=true then some (-1) else(Ko a0.Params a1.Text).bind fun r1=>some r1
def Jcg(a0:Macro)(a1:Token)(r:Int):GI :=
 ⟨[.c (.pp (List.drop 0 (Je a0).cells)),.c (.pp (List.drop 0 (Ja a1).cells))],[],[],.ret (cI r) [] []⟩
def Jcj:GI→Prop:=Sg2 Jfg Jcg
theorem Jky:∀ g,Jcj g→Jn Tryz.prog 163 g:=by
 rintro _ ⟨a0,a1,r,H,rfl⟩
 refine xGn mixed [(129,Ky)] [] [] ⟨⟨JmR,Xt⟩,trivial⟩ trivial trivial Tryz.func163 _ ?_
 have G:=True.intro
 have Y:=xZ y_3 <| xZ y_9 <| xZ y_41 <| xZ y_44 <| xZ y_63 <| xZ Tryz.results163 <| xZ Jl.eq_1 <| xZ Ja.eq_1 <| xZ Je.eq_1 <| Jcg.eq_1
 dsimp only[Jcg]
 simp only[Jfg]at H
 refine xS ?_
 refine xr ?_
 refine xr ?_
 rcases xB Y G H with⟨p,H,F,G,q⟩|⟨p,H,F,G,q⟩
 ·refine xT ?_
  replace H:=oI H
  refine xr ?_
  subst H
  refine xrD [] ?_
  exact xO ⟨[],[]⟩
 refine xE ?_
 obtain⟨r1,hr1,H⟩:=Jj H
 have F:=xC Y (XA a0.Params a1.Text r1 hr1)
 replace H:=oI H
 refine xR ?_
 subst H
 refine xrD [] ?_
 exact xO ⟨[],[]⟩
theorem Jmi:Jc Tryz.prog 163∧(∀ g,Jcj g→Jn Tryz.prog 163 g)∧(true=true→∀ g,Jcj g→∃ val bs ts,g.out=.ret val bs ts) :=
 ⟨JvM,Jky,fun _=>by rintro _ ⟨_,_,_,_,rfl⟩; exact⟨_,_,_,rfl⟩⟩
noncomputable def Xz(x3:Int):(Bool×Int×(List Token))→Option Ys
 | (x5,x6,x7)=>some (.inl (x5,x6,IntKind.i64.wrap (x3+1),x7))
noncomputable def Vu(a0:Macro)(a1:List (List Token))(x2 x3:Int)(x4:List Token)(x9:Int)(x10:List UInt8)(x11 x12:Bool)(x13 x14 x15 x16:Int)(x17:List (List UInt8))(x18:List Call)(x19 r1:Int):(Bool×Bool)→Option Ys
 | (x22,x23)=>if x23=true then if(0:Int)≤r1∧r1.toNat<a1.length then none else none else if(leI 0 r1)=true then if(0:Int)≤r1∧r1.toNat<a1.length then none else none else if x22=true then if(0:Int)≤0∧0≤x2∧x2≤(x4.length:Int) then if(0:Int)≤x2∧x2≤(x4.length:Int)∧(x4.length:Int)≤(x4.length:Int) then if(0:Int)≤x3∧x3.toNat<a0.Body.length then none else none else none else none else if(x4.length + [(⟨x9,x10,x11,x12,x13,x14,x15,x16,x17,x18,x19⟩:Token)].length) * 120≤140737488355328 then Xz x3 (false,((x4.length:Nat):Int),x4++[(⟨x9,x10,x11,x12,x13,x14,x15,x16,x17,x18,x19⟩:Token)]) else none
noncomputable def Vo(a0:Macro)(a1:List (List Token))(x1:Bool)(x2 x3:Int)(x4:List Token)(x8:Bool)(x9:Int)(x10:List UInt8)(x11 x12:Bool)(x13 x14 x15 x16:Int)(x17:List (List UInt8))(x18:List Call)(x19 r1:Int):Bool→Option Ys
 | x21=>if x21=true then if(0:Int)≤(IntKind.i64.wrap (x3+1))∧(IntKind.i64.wrap (x3+1)).toNat<a0.Body.length then(Jfg a0 (a0.Body.getD ((IntKind.i64.wrap (x3+1)).toNat) default)).bind fun r2=>if(0:Int)≤r2∧r2.toNat<a1.length then none else none else none else if(leI 0 r1)=true then if x1=true then Vu a0 a1 x2 x3 x4 x9 x10 x11 x12 x13 x14 x15 x16 x17 x18 x19 r1 (true,true) else Vu a0 a1 x2 x3 x4 x9 x10 x11 x12 x13 x14 x15 x16 x17 x18 x19 r1 (false,x8) else Vu a0 a1 x2 x3 x4 x9 x10 x11 x12 x13 x14 x15 x16 x17 x18 x19 r1 (x1,false)
noncomputable def Xx(a0:Macro)(a1:List (List Token))(x1:Bool)(x2 x3:Int)(x4:List Token)(x8:Bool)(x9:Int)(x10:List UInt8)(x11 x12:Bool)(x13 x14 x15 x16:Int)(x17:List (List UInt8))(x18:List Call)(x19 r1:Int):Bool→Option Ys
 | x20=>if x20=true then Xz x3 (true,x2,x4) else if(eqS x10 [35])=true then if(eqI x9 5)=true then Vo a0 a1 x1 x2 x3 x4 x8 x9 x10 x11 x12 x13 x14 x15 x16 x17 x18 x19 r1 a0.Call else Vo a0 a1 x1 x2 x3 x4 x8 x9 x10 x11 x12 x13 x14 x15 x16 x17 x18 x19 r1 false else Vo a0 a1 x1 x2 x3 x4 x8 x9 x10 x11 x12 x13 x14 x15 x16 x17 x18 x19 r1 false
noncomputable def Vs(a0:Macro)(a1:List (List Token))(x1:Bool)(x2 x3:Int)(x4:List Token):Yf→Option Ys
 | (x8,x9,x10,x11,x12,x13,x14,x15,x16,x17,x18,x19)=>(Jhe a0 x9 x10 x11 x12 x13 x14 x15 x16 x17 x18 x19).bind fun r1=>if(eqS x10 [35,35])=true then Xx a0 a1 x1 x2 x3 x4 x8 x9 x10 x11 x12 x13 x14 x15 x16 x17 x18 x19 r1 (eqI x9 5) else Xx a0 a1 x1 x2 x3 x4 x8 x9 x10 x11 x12 x13 x14 x15 x16 x17 x18 x19 r1 false
noncomputable def Jbc(a0:Macro)(a1:List (List Token)):(Bool×Int×Int×(List Token))→Option Ys
 | (x1,x2,x3,x4)=>if(ltI x3 (a0.Body.length:Int))=true then if(0:Int)≤x3∧x3.toNat<a0.Body.length then if(ltI (IntKind.i64.wrap (x3+1)) (a0.Body.length:Int))=true then if(0:Int)≤(IntKind.i64.wrap (x3+1))∧(IntKind.i64.wrap (x3+1)).toNat<a0.Body.length then if(eqS ((a0.Body.getD ((IntKind.i64.wrap (x3+1)).toNat) default).Text) [35,35])=true then if(0:Int)≤(IntKind.i64.wrap (x3+1))∧(IntKind.i64.wrap (x3+1)).toNat<a0.Body.length then Vs a0 a1 x1 x2 x3 x4 (eqI ((a0.Body.getD ((IntKind.i64.wrap (x3+1)).toNat) default).Kind) 5,(a0.Body.getD x3.toNat default).Kind,(a0.Body.getD x3.toNat default).Text,(a0.Body.getD x3.toNat default).Space,(a0.Body.getD x3.toNat default).First,(a0.Body.getD x3.toNat default).File,(a0.Body.getD x3.toNat default).At,(a0.Body.getD x3.toNat default).End,(a0.Body.getD x3.toNat default).Line,(a0.Body.getD x3.toNat default).Hide,(a0.Body.getD x3.toNat default).Calls,(a0.Body.getD x3.toNat default).Made) else none else Vs a0 a1 x1 x2 x3 x4 (false,(a0.Body.getD x3.toNat default).Kind,(a0.Body.getD x3.toNat default).Text,(a0.Body.getD x3.toNat default).Space,(a0.Body.getD x3.toNat default).First,(a0.Body.getD x3.toNat default).File,(a0.Body.getD x3.toNat default).At,(a0.Body.getD x3.toNat default).End,(a0.Body.getD x3.toNat default).Line,(a0.Body.getD x3.toNat default).Hide,(a0.Body.getD x3.toNat default).Calls,(a0.Body.getD x3.toNat default).Made) else none else Vs a0 a1 x1 x2 x3 x4 (false,(a0.Body.getD x3.toNat default).Kind,(a0.Body.getD x3.toNat default).Text,(a0.Body.getD x3.toNat default).Space,(a0.Body.getD x3.toNat default).First,(a0.Body.getD x3.toNat default).File,(a0.Body.getD x3.toNat default).At,(a0.Body.getD x3.toNat default).End,(a0.Body.getD x3.toNat default).Line,(a0.Body.getD x3.toNat default).Hide,(a0.Body.getD x3.toNat default).Calls,(a0.Body.getD x3.toNat default).Made) else none else inrO (some x4)
noncomputable def Jcn(a0:Macro)(a1:List (List Token))(a2:List Macro)(a3:List Source)(a4 a5:Int):Option (List Token) :=
 Jy (Jbc a0 a1) (false,0,0,([]:List Token))
def X4(a0:Macro)(a1:List (List Token))(a2:List Macro)(a3:List Source)(a4 a5:Int)(r:(List Token)):GI :=
 ⟨[.c (.pt 1 0),.c (.pp (List.drop 0 (Je a0).cells)),.c (.d (.sl 1 (List.map (dL 11 Ja) a1)))],[[.d (.sl 5 (List.map Je a2)),.d (.sl 2 (List.map Jf a3)),kI a4,kI a5]],[],.ret (.c (.os 2 11 0 r.length)) [[.d (.sl 5 (List.map Je a2)),.d (.sl 2 (List.map Jf a3)),kI a4,kI a5],[.arr 11 (List.map Ja r)]] []⟩
def X7:GI→Prop:=Sg6 Jcn X4
theorem JhH:∀ g,X7 g→Jn Tryz.prog 144 g:=by
 rintro _ ⟨a0,a1,a2,a3,a4,a5,r,H,rfl⟩
 refine xGnl mixed [16,19,21,23] [] [(163,true,Jd6),(163,true,Jcj)] [] trivial ⟨Jpz,Jmi,trivial⟩ trivial Tryz.func144 _ ?_
 have G:=True.intro
 have Y:=xZ y_3 <| xZ y_4 <| xZ y_9 <| xZ y_24 <| xZ y_44 <| xZ y_63 <| xZ y_81 <| xZ Tryz.results144 <| xZ Jf.eq_1 <| xZ Jl.eq_1 <| xZ Ja.eq_1 <| xZ Je.eq_1 <| xZ JdV.eq_1 <| xZ Jcg.eq_1 <| X4.eq_1
 dsimp only[X4]
 simp only[Jcn]at H
 refine xS ?_
 refine xr ?_
 refine xr ?_
 refine xr ?_
 refine xr ?_
 refine xr ?_
 refine JZ (Jbc a0 a1) (fun s=>[(0,.c (.pt 1 0)),(1,.c (.pp (List.drop 0 (Je a0).cells))),(2,.c (.d (.sl 1 (List.map (dL 11 Ja) a1)))),(7,.c (.os 2 11 0 s.2.2.2.length)),(8,cB s.1),(9,cI s.2.1),(10,cI s.2.2.1)]) (fun s=>[[.d (.sl 5 (List.map Je a2)),.d (.sl 2 (List.map Jf a3)),kI a4,kI a5],[.arr 11 (List.map Ja s.2.2.2)]]) [] H (xK ⟨[1,0],[]⟩) ?_
 rintro n1 ⟨x1,x2,x3,x4⟩ o1 H hF1
 rw[Jbc]at H
 refine xS ?_
 refine xr ?_
 rcases xB Y G H with⟨p,H,F,G,q⟩|⟨p,H,F,G,q⟩
 ·refine xT0 ?_
  refine Jbh ?_
  refine Jm ?_
  refine Jp (Xz x3) (fun s=>[(0,.c (.pt 1 0)),(1,.c (.pp (List.drop 0 (Je a0).cells))),(2,.c (.d (.sl 1 (List.map (dL 11 Ja) a1)))),(7,.c (.os 2 11 0 s.2.2.length)),(8,cB s.1),(9,cI s.2.1),(10,cI x3)]) (fun s=>[[.d (.sl 5 (List.map Je a2)),.d (.sl 2 (List.map Jf a3)),kI a4,kI a5],[.arr 11 (List.map Ja s.2.2)]]) [] o1 ?_ ?_
  ·refine xS ?_
   obtain⟨g,H⟩:=Jd H
   have F:=xZ Y (Ji Ja a0.Body x3.toNat default default (by omega))
   refine xR0 ?_
   refine Jm ?_
   refine Jp (Vs a0 a1 x1 x2 x3 x4) (fun s=>[(0,.c (.pt 1 0)),(1,.c (.pp (List.drop 0 (Je a0).cells))),(2,.c (.d (.sl 1 (List.map (dL 11 Ja) a1)))),(7,.c (.os 2 11 0 x4.length)),(8,cB x1),(9,cI x2),(10,cI x3),(11,.c (.pt 3 0)),(12,cB s.1)]) (fun s=>[[.d (.sl 5 (List.map Je a2)),.d (.sl 2 (List.map Jf a3)),kI a4,kI a5],[.arr 11 (List.map Ja x4)],[kI s.2.1,kS s.2.2.1,kB s.2.2.2.1,kB s.2.2.2.2.1,kI s.2.2.2.2.2.1,kI s.2.2.2.2.2.2.1,kI s.2.2.2.2.2.2.2.1,kI s.2.2.2.2.2.2.2.2.1,.d (.sl 1 (List.map dS s.2.2.2.2.2.2.2.2.2.1)),.d (.sl 3 (List.map Jl s.2.2.2.2.2.2.2.2.2.2.1)),kI s.2.2.2.2.2.2.2.2.2.2.2]]) [] o1 ?_ ?_
   ·rcases xB Y G H with⟨p,H,F,G,q⟩|⟨p,H,F,G,q⟩
    ·obtain⟨g,H⟩:=Jd H
     have F:=xZ F (Ji Ja a0.Body ((IntKind.i64.wrap (x3+1)).toNat) default default (by omega))
     rcases xB F G H with⟨p,H,F,G,q⟩|⟨p,H,F,G,q⟩
     ·obtain⟨g,H⟩:=Jd H
      have F:=xZ F (Ji Ja a0.Body ((IntKind.i64.wrap (x3+1)).toNat) default default (by omega))
      refine xR ?_
      exact Jb H (xK ⟨[1,2,3],[]⟩)
     refine xR ?_
     exact Jb H (xK ⟨[1,2,3],[]⟩)
    refine xR ?_
    exact Jb H (xK ⟨[1,2,3],[]⟩)
   rintro ⟨x8,x9,x10,x11,x12,x13,x14,x15,x16,x17,x18,x19⟩ H
   rw[Vs]at H
   refine xS ?_
   refine xr ?_
   obtain⟨r1,hr1,H⟩:=Jj H
   have F:=Y
   refine xQ ?_
   refine xs 1 ?_
   refine xc ⟨[3],[]⟩ (tabG 0 (cg12 hr1)) ?_
   refine xs 1 ?_
   refine xl ?_
   refine  ?_
   refine Jm ?_
   refine Ja3 ?_
   refine Jp (Xx a0 a1 x1 x2 x3 x4 x8 x9 x10 x11 x12 x13 x14 x15 x16 x17 x18 x19 r1) (fun s=>[(0,.c (.pt 1 0)),(1,.c (.pp (List.drop 0 (Je a0).cells))),(2,.c (.d (.sl 1 (List.map (dL 11 Ja) a1)))),(7,.c (.os 2 11 0 x4.length)),(8,cB x1),(9,cI x2),(10,cI x3),(11,.c (.pt 3 0)),(12,cB x8),(14,cI r1),(67,cB s)]) (fun s=>[[.d (.sl 5 (List.map Je a2)),.d (.sl 2 (List.map Jf a3)),kI a4,kI a5],[.arr 11 (List.map Ja x4)],[kI x9,kS x10,kB x11,kB x12,kI x13,kI x14,kI x15,kI x16,.d (.sl 1 (List.map dS x17)),.d (.sl 3 (List.map Jl x18)),kI x19]]) [] o1 ?_ ?_
   ·rcases xB Y G H with⟨p,H,F,G,q⟩|⟨p,H,F,G,q⟩
    ·refine xR ?_
     exact Jb H (xK ⟨[1,2,3],[]⟩)
    refine xR ?_
    exact Jb H (xK ⟨[1,2,3],[]⟩)
   rintro x20 H
   rw[Xx]at H
   rcases xB Y G H with⟨p,H,F,G,q⟩|⟨p,H,F,G,q⟩
   ·refine xT ?_
    refine xr ?_
    exact Jb H (xK ⟨[1,2],[]⟩)
   refine xE0 ?_
   refine Jp (Vo a0 a1 x1 x2 x3 x4 x8 x9 x10 x11 x12 x13 x14 x15 x16 x17 x18 x19 r1) (fun s=>[(0,.c (.pt 1 0)),(1,.c (.pp (List.drop 0 (Je a0).cells))),(2,.c (.d (.sl 1 (List.map (dL 11 Ja) a1)))),(7,.c (.os 2 11 0 x4.length)),(8,cB x1),(9,cI x2),(10,cI x3),(11,.c (.pt 3 0)),(12,cB x8),(14,cI r1),(76,cB s)]) (fun s=>[[.d (.sl 5 (List.map Je a2)),.d (.sl 2 (List.map Jf a3)),kI a4,kI a5],[.arr 11 (List.map Ja x4)],[kI x9,kS x10,kB x11,kB x12,kI x13,kI x14,kI x15,kI x16,.d (.sl 1 (List.map dS x17)),.d (.sl 3 (List.map Jl x18)),kI x19]]) [] o1 ?_ ?_
   ·rcases xB Y G H with⟨p,H,F,G,q⟩|⟨p,H,F,G,q⟩
    ·rcases xB F G H with⟨p,H,F,G,q⟩|⟨p,H,F,G,q⟩
     ·refine xR ?_
      exact Jb H (xK ⟨[1,2,3],[]⟩)
     refine xR ?_
     exact Jb H (xK ⟨[1,2,3],[]⟩)
    refine xR ?_
    exact Jb H (xK ⟨[1,2,3],[]⟩)
   rintro x21 H
   rw[Vo]at H
   rcases xB Y G H with⟨p,H,F,G,q⟩|⟨p,H,F,G,q⟩
   ·refine xT ?_
    refine xr ?_
    obtain⟨g,H⟩:=Jd H
    have F:=xZ Y (Ji Ja a0.Body ((IntKind.i64.wrap (x3+1)).toNat) default default (by omega))
    obtain⟨r2,hr2,H⟩:=Jj H
    have F:=F
    obtain⟨g,H⟩:=Jd H
    have F:=xZ F (Ji (dL 11 Ja) a1 r2.toNat default default (by omega))
    cases H
   refine xE0 ?_
   refine Jp (Vu a0 a1 x2 x3 x4 x9 x10 x11 x12 x13 x14 x15 x16 x17 x18 x19 r1) (fun s=>[(0,.c (.pt 1 0)),(1,.c (.pp (List.drop 0 (Je a0).cells))),(2,.c (.d (.sl 1 (List.map (dL 11 Ja) a1)))),(7,.c (.os 2 11 0 x4.length)),(8,cB s.1),(9,cI x2),(10,cI x3),(11,.c (.pt 3 0)),(14,cI r1),(139,cB s.2)]) (fun s=>[[.d (.sl 5 (List.map Je a2)),.d (.sl 2 (List.map Jf a3)),kI a4,kI a5],[.arr 11 (List.map Ja x4)],[kI x9,kS x10,kB x11,kB x12,kI x13,kI x14,kI x15,kI x16,.d (.sl 1 (List.map dS x17)),.d (.sl 3 (List.map Jl x18)),kI x19]]) [] o1 ?_ ?_
   ·rcases xB Y G H with⟨p,H,F,G,q⟩|⟨p,H,F,G,q⟩
    ·rcases xB F G H with⟨p,H,F,G,q⟩|⟨p,H,F,G,q⟩
     ·refine xR ?_
      exact Jb H (xK ⟨[1,2,3],[]⟩)
     refine xR ?_
     exact Jb H (xK ⟨[1,2,3],[]⟩)
    refine xR ?_
    exact Jb H (xK ⟨[1,2,3],[]⟩)
   rintro ⟨x22,x23⟩ H
   rw[Vu]at H
   rcases xB Y G H with⟨p,H,F,G,q⟩|⟨p,H,F,G,q⟩
   ·refine xT ?_
    obtain⟨g,H⟩:=Jd H
    have F:=xZ Y (Ji (dL 11 Ja) a1 r1.toNat default default (by omega))
    cases H
   refine xE ?_
   refine xr ?_
   rcases xB Y G H with⟨p,H,F,G,q⟩|⟨p,H,F,G,q⟩
   ·refine xT ?_
    obtain⟨g,H⟩:=Jd H
    have F:=xZ Y (Ji (dL 11 Ja) a1 r1.toNat default default (by omega))
    cases H
   refine xE ?_
   refine xr ?_
   refine xr ?_
   rcases xB Y G H with⟨p,H,F,G,q⟩|⟨p,H,F,G,q⟩
   ·refine xT ?_
    refine xfz 2 11 (List.map Ja x4) [] ?_
    obtain⟨g,H⟩:=Jd H
    obtain⟨g,H⟩:=Jd H
    obtain⟨g,H⟩:=Jd H
    have F:=xZ Y (Ji Ja a0.Body x3.toNat default default (by omega))
    cases H
   refine xE ?_
   refine xr ?_
   obtain⟨g,H⟩:=Jd H
   have F:=xZ Y (JQ KV [(⟨x9,x10,x11,x12,x13,x14,x15,x16,x17,x18,x19⟩:Token)])
   have L:[(⟨x9,x10,x11,x12,x13,x14,x15,x16,x17,x18,x19⟩:Token)].length=1:=rfl
   refine xR ?_
   refine xr ?_
   exact Jb H (xK ⟨[1,4],[]⟩)
  rintro ⟨x5,x6,x7⟩ H
  rw[Xz]at H
  refine xr ?_
  exact JA (JF H hF1) (xK ⟨[1,2],[]⟩)
 replace H:=Js H hF1
 refine xE ?_
 replace H:=oI H
 refine xr ?_
 subst H
 refine xrD [] ?_
 exact xO ⟨[1,2],[]⟩
theorem Jbx:Jc Tryz.prog 144∧(∀ g,X7 g→Jn Tryz.prog 144 g)∧(true=true→∀ g,X7 g→∃ val bs ts,g.out=.ret val bs ts) :=
 ⟨JBq,JhH,fun _=>by rintro _ ⟨_,_,_,_,_,_,_,_,rfl⟩; exact⟨_,_,_,rfl⟩⟩
noncomputable def V3(a0:List YR):YE→Option (YE ⊕ YR)
 | (x4,x5,x6)=>if(ltI x5 x4)=true then if(0:Int)≤x5∧x5.toNat<a0.length then if(x6.length+(a0.getD x5.toNat default).length) * 16≤140737488355328 then some (.inl (x4,IntKind.i64.wrap (x5+1),x6++(a0.getD x5.toNat default))) else none else none else inrO (some x6)
noncomputable def V0(a0:List YR):YV→Option (YV ⊕ YR)
 | (x1,x2,x3)=>if(ltI x3 x2)=true then if(0:Int)≤x3∧x3.toNat<a0.length then if(ltI (IntKind.i64.wrap (x1+((a0.getD x3.toNat default).length:Int))) 0)=true then none else some (.inl (IntKind.i64.wrap (x1+((a0.getD x3.toNat default).length:Int)),x2,IntKind.i64.wrap (x3+1))) else none else inrO ((ZT x1).bind fun r1=>Jy (V3 a0) ((a0.length:Int),0,([]:List (List UInt8))))
noncomputable def XV(a0:List YR):Option YR :=
 Jy (V0 a0) (0,(a0.length:Int),0)
def K6(a0:List YR)(r:YR):GI :=
 ⟨[.c (.d (.sl 1 (List.map (dL 1 dS) a0)))],[],[],.ret (.c (.os 1 1 0 r.length)) [[.arr 1 (List.map dS r)]] []⟩
def K9:GI→Prop:=Sg1 XV K6
theorem JeV:∀ g,K9 g→Jn Tryz.prog 159 g:=by
 rintro _ ⟨a0,r,H,rfl⟩
 refine xGn mixed [] [(174,true,Vk)] [] trivial ⟨JfR,trivial⟩ trivial Tryz.func159 _ ?_
 have G:=True.intro
 have Y:=xZ y_9 <| xZ y_41 <| xZ JCb <| xZ Tryz.results159 <| xZ XU.eq_1 <| K6.eq_1
 dsimp only[K6]
 simp only[XV]at H
 refine xS ?_
 refine xr ?_
 refine xr ?_
 refine xr ?_
 refine JZ (V0 a0) (fun s=>[(0,.c (.d (.sl 1 (List.map (dL 1 dS) a0)))),(3,cI s.1),(9,.c (.d (.sl 1 (List.map (dL 1 dS) a0)))),(10,cI s.2.1),(11,cI s.2.2)]) (fun s=>[]) [] H (xK ⟨[],[]⟩) ?_
 rintro n1 ⟨x1,x2,x3⟩ o1 H hF1
 rw[V0]at H
 refine xS ?_
 refine xr ?_
 rcases xB Y G H with⟨p,H,F,G,q⟩|⟨p,H,F,G,q⟩
 ·refine xT ?_
  obtain⟨g,H⟩:=Jd H
  have F:=xZ Y (Ji (dL 1 dS) a0 x3.toNat default default (by omega))
  refine xR ?_
  refine xr ?_
  refine xr ?_
  rcases xB Y G H with⟨p,H,F,G,q⟩|⟨p,H,F,G,q⟩
  ·refine xT ?_
   cases H
  refine xE ?_
  refine xr ?_
  exact JA (JF H hF1) (xK ⟨[],[]⟩)
 replace H:=Js H hF1
 refine xE ?_
 obtain⟨r1,hr1,H⟩:=Jj H
 have F:=Y
 refine xQ ?_
 refine xs 1 ?_
 refine xc ⟨[],[]⟩ (tabG 0 (cg1 hr1)) ?_
 refine xs 1 ?_
 refine xl ?_
 refine xS ?_
 refine xr ?_
 refine JZ (V3 a0) (fun s=>[(6,.c (.os 1 1 0 s.2.2.length)),(25,.c (.d (.sl 1 (List.map (dL 1 dS) a0)))),(26,cI s.1),(27,cI s.2.1)]) (fun s=>[[.arr 1 (List.map dS s.2.2)]]) [] H (xK ⟨[1],[]⟩) ?_
 rintro n2 ⟨x4,x5,x6⟩ o2 H hF2
 rw[V3]at H
 refine xS ?_
 refine xr ?_
 rcases xB Y G H with⟨p,H,F,G,q⟩|⟨p,H,F,G,q⟩
 ·refine xT ?_
  obtain⟨g,H⟩:=Jd H
  have F:=xZ Y (Ji (dL 1 dS) a0 x5.toNat default default (by omega))
  refine xR ?_
  obtain⟨g,H⟩:=Jd H
  have F:=xZ Y (JQ JiP (a0.getD x5.toNat default))
  have A:=JQ JiP (a0.getD x5.toNat default)
  refine xR ?_
  refine xr ?_
  exact JA (JF H hF2) (xK ⟨[2],[]⟩)
 replace H:=Js H hF2
 refine xE ?_
 replace H:=oI H
 refine xr ?_
 subst H
 refine xrD [] ?_
 exact xO ⟨[1],[]⟩
theorem Je8:Jc Tryz.prog 159∧(∀ g,K9 g→Jn Tryz.prog 159 g)∧(true=true→∀ g,K9 g→∃ val bs ts,g.out=.ret val bs ts) :=
 ⟨JBk,JeV,fun _=>by rintro _ ⟨_,_,_,rfl⟩; exact⟨_,_,_,rfl⟩⟩
noncomputable def Vm(a0:List (List Call)):((List Call)×Int×Int)→Option (((List Call)×Int×Int) ⊕ (List Call))
 | (x4,x5,x6)=>if(ltI x6 x5)=true then if(0:Int)≤x6∧x6.toNat<a0.length then if(x4.length+(a0.getD x6.toNat default).length) * 32≤140737488355328 then some (.inl (x4++(a0.getD x6.toNat default),x5,IntKind.i64.wrap (x6+1))) else none else none else inrO (some x4)
noncomputable def Vl(a0:List (List Call)):YV→Option (YV ⊕ (List Call))
 | (x1,x2,x3)=>if(ltI x3 x2)=true then if(0:Int)≤x3∧x3.toNat<a0.length then if(ltI (IntKind.i64.wrap (x1+((a0.getD x3.toNat default).length:Int))) 0)=true then none else some (.inl (IntKind.i64.wrap (x1+((a0.getD x3.toNat default).length:Int)),x2,IntKind.i64.wrap (x3+1))) else none else inrO ((Xv x1).bind fun r1=>Jy (Vm a0) (([]:List Call),(a0.length:Int),0))
noncomputable def VS(a0:List (List Call)):Option (List Call) :=
 Jy (Vl a0) (0,(a0.length:Int),0)
def KM(a0:List (List Call))(r:(List Call)):GI :=
 ⟨[.c (.d (.sl 1 (List.map (dL 3 Jl) a0)))],[],[],.ret (.c (.sl 3 (List.map Jl r) 1)) [] [198]⟩
def KK:GI→Prop:=Sg1 VS KM
theorem JdD:∀ g,KK g→Jn Tryz.prog 162 g:=by
 rintro _ ⟨a0,r,H,rfl⟩
 refine xGn mixed [] [(177,true,KS)] [] trivial ⟨Jet,trivial⟩ trivial Tryz.func162 _ ?_
 have G:=True.intro
 have Y:=xZ y_9 <| xZ y_42 <| xZ Jtr <| xZ JB5 <| xZ Tryz.results162 <| xZ Jl.eq_1 <| xZ VQ.eq_1 <| KM.eq_1
 dsimp only[KM]
 simp only[VS]at H
 refine xS ?_
 refine xr ?_
 refine xr ?_
 refine xr ?_
 refine JZ (Vl a0) (fun s=>[(0,.c (.d (.sl 1 (List.map (dL 3 Jl) a0)))),(3,cI s.1),(9,.c (.d (.sl 1 (List.map (dL 3 Jl) a0)))),(10,cI s.2.1),(11,cI s.2.2)]) (fun s=>[]) [] H (xK ⟨[],[]⟩) ?_
 rintro n1 ⟨x1,x2,x3⟩ o1 H hF1
 rw[Vl]at H
 refine xS ?_
 refine xr ?_
 rcases xB Y G H with⟨p,H,F,G,q⟩|⟨p,H,F,G,q⟩
 ·refine xT ?_
  obtain⟨g,H⟩:=Jd H
  have F:=xZ Y (Ji (dL 3 Jl) a0 x3.toNat default default (by omega))
  refine xR ?_
  refine xr ?_
  refine xr ?_
  rcases xB Y G H with⟨p,H,F,G,q⟩|⟨p,H,F,G,q⟩
  ·refine xT ?_
   cases H
  refine xE ?_
  refine xr ?_
  exact JA (JF H hF1) (xK ⟨[],[]⟩)
 replace H:=Js H hF1
 refine xE ?_
 obtain⟨r1,hr1,H⟩:=Jj H
 have F:=Y
 refine xQ ?_
 refine xs 1 ?_
 refine xc ⟨[],[]⟩ (tabG 0 (cg1 hr1)) ?_
 refine xs 1 ?_
 refine xl ?_
 refine xS ?_
 refine xr ?_
 refine JZ (Vm a0) (fun s=>[(6,.c (.sl 3 (List.map Jl s.1) 1)),(25,.c (.d (.sl 1 (List.map (dL 3 Jl) a0)))),(26,cI s.2.1),(27,cI s.2.2)]) (fun s=>[]) [198] H (xK ⟨[],[1]⟩) ?_
 rintro n2 ⟨x4,x5,x6⟩ o2 H hF2
 rw[Vm]at H
 refine xS ?_
 refine xr ?_
 rcases xB Y G H with⟨p,H,F,G,q⟩|⟨p,H,F,G,q⟩
 ·refine xT ?_
  obtain⟨g,H⟩:=Jd H
  have F:=xZ Y (Ji (dL 3 Jl) a0 x6.toNat default default (by omega))
  refine xR ?_
  obtain⟨g,H⟩:=Jd H
  have F:=xZ Y (JQ JjJ (a0.getD x6.toNat default))
  have A:=JQ JjJ (a0.getD x6.toNat default)
  refine xR ?_
  refine xr ?_
  exact JA (JF H hF2) (xK ⟨[],[2]⟩)
 replace H:=Js H hF2
 refine xE ?_
 replace H:=oI H
 refine xr ?_
 subst H
 refine xrD [] ?_
 exact xO ⟨[],[1]⟩
theorem Jed:Jc Tryz.prog 162∧(∀ g,KK g→Jn Tryz.prog 162 g)∧(true=true→∀ g,KK g→∃ val bs ts,g.out=.ret val bs ts) :=
 ⟨JAF,JdD,fun _=>by rintro _ ⟨_,_,_,rfl⟩; exact⟨_,_,_,rfl⟩⟩
noncomputable def Jf5(a0:List (List UInt8))(a1:List Call):(Int×Int×(List Token))→Option ((Int×Int×(List Token)) ⊕ (List Token))
 | (x1,x2,x3)=>if(ltI x2 x1)=true then if(0:Int)≤x2∧x2.toNat<x3.length then if x2.toNat<x3.length then(XV [(x3.getD x2.toNat default).Hide,a0]).bind fun r1=>(ZS r1).bind fun r2=>(XB (Jff r1)).bind fun r3=>if(0:Int)≤x2∧x2.toNat<x3.length then if x2.toNat<x3.length then if(0:Int)≤x2∧x2.toNat<x3.length then if x2.toNat<x3.length then(VS [a1,(x3.getD x2.toNat default).Calls]).bind fun r4=>if(0:Int)≤x2∧x2.toNat<x3.length then if x2.toNat<x3.length then some (.inl (x1,IntKind.i64.wrap (x2+1),List.set x3 x2.toNat (⟨(x3.getD x2.toNat default).Kind,(x3.getD x2.toNat default).Text,(x3.getD x2.toNat default).Space,(x3.getD x2.toNat default).First,(x3.getD x2.toNat default).File,(x3.getD x2.toNat default).At,(x3.getD x2.toNat default).End,(x3.getD x2.toNat default).Line,J4 (Jff r1),r4,(x3.getD x2.toNat default).Made⟩:Token))) else none else none else none else none else none else none else none else none else inrO (some x3)
noncomputable def Jh9(a0:List (List UInt8))(a1:List Call)(a2:List Token):Option (List Token) :=
 Jy (Jf5 a0 a1) (((a2.length:Nat):Int),0,a2)
def JeF(a0:List (List UInt8))(a1:List Call)(a2:List Token)(r:(List Token)):GI :=
 ⟨[.c (.os 1 11 0 a2.length),.c (.d (.sl 1 (List.map dS a0))),.c (.d (.sl 3 (List.map Jl a1)))],[[.arr 11 (List.map Ja a2)]],[],.ret (.c (.os 1 11 0 r.length)) [[.arr 11 (List.map Ja r)]] []⟩
def JeE:GI→Prop:=Sg3 Jh9 JeF
theorem Jpx:∀ g,JeE g→Jn Tryz.prog 143 g:=by
 rintro _ ⟨a0,a1,a2,r,H,rfl⟩
 refine xGn mixed [] [(159,true,K9),(160,true,Vh),(161,true,K3),(162,true,KK)] [] trivial ⟨Je8,JfQ,JeW,Jed,trivial⟩ trivial Tryz.func143 _ ?_
 have G:=True.intro
 have Y:=xZ y_24 <| xZ y_41 <| xZ y_42 <| xZ y_44 <| xZ JCb <| xZ JB5 <| xZ Tryz.results143 <| xZ Jl.eq_1 <| xZ Ja.eq_1 <| xZ K6.eq_1 <| xZ XW.eq_1 <| xZ V2.eq_1 <| xZ KM.eq_1 <| JeF.eq_1
 dsimp only[JeF]
 simp only[Jh9]at H
 refine xS ?_
 refine xr ?_
 refine xr ?_
 refine JZ (Jf5 a0 a1) (fun s=>[(0,.c (.os 1 11 0 s.2.2.length)),(1,.c (.d (.sl 1 (List.map dS a0)))),(2,.c (.d (.sl 3 (List.map Jl a1)))),(10,cI s.1),(11,cI s.2.1)]) (fun s=>[[.arr 11 (List.map Ja s.2.2)]]) [] H (xK ⟨[1],[]⟩) ?_
 rintro n1 ⟨x1,x2,x3⟩ o1 H hF1
 rw[Jf5]at H
 refine xS ?_
 refine xr ?_
 rcases xB Y G H with⟨p,H,F,G,q⟩|⟨p,H,F,G,q⟩
 ·refine xT ?_
  refine xr ?_
  obtain⟨g,H⟩:=Jd H
  obtain⟨g,H⟩:=Jd H
  have F:=xZ Y (Ji Ja x3 x2.toNat default default (by omega))
  obtain⟨r1,hr1,H⟩:=Jj H
  have F:=F
  refine xQ ?_
  refine xs 7 ?_
  refine xc ⟨[],[]⟩ (tabG 0 (cg1 hr1)) ?_
  refine xs 1 ?_
  refine xl ?_
  refine xS ?_
  obtain⟨r2,hr2,H⟩:=Jj H
  have F:=Y
  refine xQ ?_
  refine xs 1 ?_
  refine xc ⟨[2],[]⟩ (tabG 1 (cg1 hr2)) ?_
  refine xl ?_
  refine xS ?_
  obtain⟨r3,hr3,H⟩:=Jj H
  have F:=xZ Y Jk6
  obtain⟨g,H⟩:=Jd H
  obtain⟨g,H⟩:=Jd H
  have F:=xZ F (Ji Ja x3 x2.toNat default default (by omega))
  have F:=xZ F (Jd3 Ja x3 x2.toNat)
  have F:=xZ F (Jd0 Ja x3 (show x2.toNat<x3.length by omega))
  have F:=xZ F (JdW Ja x3 x2.toNat)
  refine xQ ?_
  refine xs 3 ?_
  refine xc ⟨[2],[]⟩ (tabG 2 (cg1 hr3)) ?_
  refine xs 3 ?_
  refine xl ?_
  refine xS ?_
  obtain⟨g,H⟩:=Jd H
  obtain⟨g,H⟩:=Jd H
  have F:=xZ Y (Ji Ja x3 x2.toNat default default (by omega))
  have F:=xZ F (Jd3 Ja x3 x2.toNat)
  have F:=xZ F (Jd0 Ja x3 (show x2.toNat<x3.length by omega))
  have F:=xZ F (JdW Ja x3 x2.toNat)
  obtain⟨r4,hr4,H⟩:=Jj H
  have F:=F
  obtain⟨g,H⟩:=Jd H
  obtain⟨g,H⟩:=Jd H
  have F:=xZ F (Ji Ja x3 x2.toNat default default (by omega))
  have F:=xZ F (Jd3 Ja x3 x2.toNat)
  have F:=xZ F (Jd0 Ja x3 (show x2.toNat<x3.length by omega))
  have F:=xZ F (JdW Ja x3 x2.toNat)
  refine xQ ?_
  refine xs 9 ?_
  refine xc ⟨[],[]⟩ (tabG 3 (cg1 hr4)) ?_
  refine xs 3 ?_
  refine xl ?_
  refine xS ?_
  refine xr ?_
  exact JA (JF H hF1) (xK ⟨[1],[]⟩)
 replace H:=Js H hF1
 refine xE ?_
 replace H:=oI H
 refine xr ?_
 subst H
 refine xrD [] ?_
 exact xO ⟨[1],[]⟩
theorem JgM:Jc Tryz.prog 143∧(∀ g,JeE g→Jn Tryz.prog 143 g)∧(true=true→∀ g,JeE g→∃ val bs ts,g.out=.ret val bs ts) :=
 ⟨JAh,Jpx,fun _=>by rintro _ ⟨_,_,_,_,_,rfl⟩; exact⟨_,_,_,rfl⟩⟩
noncomputable def JcL:(List Token)→Option (List Token)
 | x1=>some x1
noncomputable def JgJ(a0:Bool)(a1:List Token):Option (List Token) :=
 if(ltI 0 ((a1.length:Nat):Int))=true then if 0<a1.length then if 0<a1.length then JcL (List.set a1 0 (⟨(a1.getD 0 default).Kind,(a1.getD 0 default).Text,a0,(a1.getD 0 default).First,(a1.getD 0 default).File,(a1.getD 0 default).At,(a1.getD 0 default).End,(a1.getD 0 default).Line,(a1.getD 0 default).Hide,(a1.getD 0 default).Calls,(a1.getD 0 default).Made⟩:Token)) else none else none else JcL a1
def Jds(a0:Bool)(a1:List Token)(r:(List Token)):GI :=
 ⟨[.c (.os 1 11 0 a1.length),cB a0],[[.arr 11 (List.map Ja a1)]],[],.ret (.c (.os 1 11 0 r.length)) [[.arr 11 (List.map Ja r)]] []⟩
def Jdy:GI→Prop:=Sg2 JgJ Jds
theorem JmO:∀ g,Jdy g→Jn Tryz.prog 146 g:=by
 rintro _ ⟨a0,a1,r,H,rfl⟩
 refine xGn mixed [] [] [] trivial trivial trivial Tryz.func146 _ ?_
 have G:=True.intro
 have Y:=xZ y_4 <| xZ y_24 <| xZ y_44 <| xZ Tryz.results146 <| xZ Jl.eq_1 <| xZ Ja.eq_1 <| Jds.eq_1
 dsimp only[Jds]
 simp only[JgJ]at H
 refine xS ?_
 refine xr0 ?_
 refine Jm ?_
 refine Jp JcL (fun s=>[(0,.c (.os 1 11 0 s.length))]) (fun s=>[[.arr 11 (List.map Ja s)]]) [] r ?_ ?_
 ·refine xS ?_
  refine xr ?_
  rcases xB Y G H with⟨p,H,F,G,q⟩|⟨p,H,F,G,q⟩
  ·refine xT ?_
   obtain⟨g,H⟩:=Jd H
   obtain⟨g,H⟩:=Jd H
   have F:=xZ Y (Ji Ja a1 0 default default (by omega))
   have F:=xZ F (Jd3 Ja a1 0)
   have F:=xZ F (Jd0 Ja a1 (show 0<a1.length by omega))
   have F:=xZ F (JdW Ja a1 0)
   refine xR ?_
   exact Jb H (xK ⟨[1],[]⟩)
  refine xE ?_
  exact Jb H (xK ⟨[1],[]⟩)
 rintro x1 H
 rw[JcL]at H
 refine xS ?_
 replace H:=oI H
 refine xr ?_
 subst H
 refine xrD [] ?_
 exact xO ⟨[1],[]⟩
theorem JfI:Jc Tryz.prog 146∧(∀ g,Jdy g→Jn Tryz.prog 146 g)∧(true=true→∀ g,Jdy g→∃ val bs ts,g.out=.ret val bs ts) :=
 ⟨JAL,JmO,fun _=>by rintro _ ⟨_,_,_,_,rfl⟩; exact⟨_,_,_,rfl⟩⟩
noncomputable def XX(a0:Macro)(a1:Token)(a2:List Macro)(a3:List Source)(a4 a5:Int):(YR×Nat×Int×Int)→Option YN
 | (x1,x2,x3,x4)=>(Jcn a0 ([]:List (List Token)) a2 a3 a4 a5).bind fun r2=>(V1 a1.Calls).bind fun r3=>if(a1.Calls.length + [(⟨a0.Name,x3,x4⟩:Call)].length) * 32≤140737488355328 then(Jh9 x1 (a1.Calls++[(⟨a0.Name,x3,x4⟩:Call)]) r2).bind fun r4=>(JgJ a1.Space r4).bind fun r5=>some (x2,r5) else none
noncomputable def JcQ(a0:Macro)(a1:Token)(a2:List Macro)(a3:List Source)(a4 a5:Int)(a6:Nat)(a7:List Token):Option YN :=
 (Zn a1.Hide).bind fun r1=>if(a1.Hide.length + [a0.Name].length) * 16≤140737488355328 then if a0.Call=true then none else if(!eqI a1.Made 0)=true then XX a0 a1 a2 a3 a4 a5 (a1.Hide++[a0.Name],a6,(-1),0) else XX a0 a1 a2 a3 a4 a5 (a1.Hide++[a0.Name],a6,a1.File,a1.At) else none
def Zy(a0:Macro)(a1:Token)(a2:List Macro)(a3:List Source)(a4 a5:Int)(a6:Nat)(a7:List Token)(r:YN):GI :=
 ⟨[.c (.pt 1 0),.c (.pp (List.drop 0 (Je a0).cells)),.ag [kI a1.Kind,kS a1.Text,kB a1.Space,kB a1.First,kI a1.File,kI a1.At,kI a1.End,kI a1.Line,.d (.sl 1 (List.map dS a1.Hide)),.d (.sl 3 (List.map Jl a1.Calls)),kI a1.Made],.c (.pt 2 0)],[[.d (.sl 5 (List.map Je a2)),.d (.sl 2 (List.map Jf a3)),kI a4,kI a5],[.os 3 11 0 a6],[.arr 11 (List.map Ja a7)]],[],.ret (.c (.os 4 11 0 r.2.length)) [[.d (.sl 5 (List.map Je a2)),.d (.sl 2 (List.map Jf a3)),kI a4,kI a5],[.os 3 11 0 r.1],[.arr 11 (List.map Ja a7)],[.arr 11 (List.map Ja r.2)]] []⟩
def Zx:GI→Prop:=Sg8 JcQ Zy
theorem JhK:∀ g,Zx g→Jn Tryz.prog 126 g:=by
 rintro _ ⟨a0,a1,a2,a3,a4,a5,a6,a7,r,H,rfl⟩
 refine xGnl mixed [1,27] [] [(138,true,Vd),(144,true,X7),(145,true,KN),(143,true,JeE),(146,true,Jdy)] [] trivial ⟨XE,Jbx,VH,JgM,JfI,trivial⟩ trivial Tryz.func126 _ ?_
 have G:=True.intro
 have Y:=xZ y_3 <| xZ y_4 <| xZ y_9 <| xZ y_24 <| xZ y_41 <| xZ y_42 <| xZ y_44 <| xZ y_63 <| xZ y_81 <| xZ Jnm <| xZ Jtr <| xZ Tryz.results126 <| xZ Jf.eq_1 <| xZ Jl.eq_1 <| xZ Ja.eq_1 <| xZ Je.eq_1 <| xZ JbY.eq_1 <| xZ X4.eq_1 <| xZ Jat.eq_1 <| xZ JeF.eq_1 <| xZ Jds.eq_1 <| Zy.eq_1
 dsimp only[Zy]
 simp only[JcQ]at H
 refine xS ?_
 refine xr ?_
 obtain⟨r1,hr1,H⟩:=Jj H
 have F:=Y
 obtain⟨g,H⟩:=Jd H
 have F:=xZ F (JQ JiP [a0.Name])
 refine xP [0,1,3,4,5,6,7,2,8,9] [27] ⟨XE,Jbx,VH,JgM,JfI,trivial⟩ ?_
 refine xsX 5 ?_
 refine xaX ?_
 refine xsX 1 ?_
 refine xcX ⟨[],[]⟩ (tabG 0 (cg1 hr1)) ?_
 refine xbX ?_
 refine xsX 1 ?_
 refine xlX ?_
 refine xS ?_
 refine xr ?_
 refine xr ?_
 rcases xB Y G H with⟨p,H,F,G,q⟩|⟨p,H,F,G,q⟩
 ·refine xT ?_
  cases H
 refine xE ?_
 refine xr0 ?_
 refine Jm ?_
 refine Jp (XX a0 a1 a2 a3 a4 a5) (fun s=>[(0,.c (.pt 1 0)),(1,.c (.pp (List.drop 0 (Je a0).cells))),(6,.c (.pt 4 0)),(9,.c (.sl 1 (List.map dS s.1) 6)),(10,.c (.sl 1 [] 0)),(19,.c (.pt 5 0))]) (fun s=>[[.d (.sl 5 (List.map Je a2)),.d (.sl 2 (List.map Jf a3)),kI a4,kI a5],[.os 3 11 0 s.2.1],[.arr 11 (List.map Ja a7)],[kI a1.Kind,kS a1.Text,kB a1.Space,kB a1.First,kI a1.File,kI a1.At,kI a1.End,kI a1.Line,.d (.sl 1 (List.map dS a1.Hide)),.d (.sl 3 (List.map Jl a1.Calls)),kI a1.Made],[kS a0.Name,kI s.2.2.1,kI s.2.2.2]]) [9] r ?_ ?_
 ·refine xS ?_
  refine xr ?_
  rcases xB Y G H with⟨p,H,F,G,q⟩|⟨p,H,F,G,q⟩
  ·refine xT ?_
   refine xr ?_
   exact Jb H (xK ⟨[1,2,3,4,7],[6]⟩)
  refine xE ?_
  exact Jb H (xK ⟨[1,2,3,4,7],[6]⟩)
 rintro ⟨x1,x2,x3,x4⟩ H
 rw[XX]at H
 refine xS ?_
 obtain⟨r2,hr2,H⟩:=Jj H
 have F:=Y
 obtain⟨r3,hr3,H⟩:=Jj H
 have F:=F
 obtain⟨g,H⟩:=Jd H
 have F:=xZ F (JQ JjJ [(⟨a0.Name,x3,x4⟩:Call)])
 obtain⟨r4,hr4,H⟩:=Jj H
 have F:=F
 refine xP [0,1,2,4,5,6,8,9,3,7,10,11,12] [109,111] ⟨XE,Jbx,VH,JgM,JfI,trivial⟩ ?_
 refine xsX 5 ?_
 refine xaX ?_
 refine xaX ?_
 refine xsX 1 ?_
 refine xcX ⟨[1],[]⟩ (tabG 1 (cg6 hr2)) ?_
 refine xcX ⟨[],[]⟩ (tabG 2 (cg1 hr3)) ?_
 refine xsX 1 ?_
 refine xcX ⟨[8],[]⟩ (tabG 3 (cg3 hr4)) ?_
 refine xsX 1 ?_
 refine xlX ?_
 refine xS ?_
 obtain⟨r5,hr5,H⟩:=Jj H
 have F:=Y
 refine xQ ?_
 refine xs 3 ?_
 refine xc ⟨[8],[]⟩ (tabG 4 (cg2 hr5)) ?_
 refine xs 1 ?_
 refine xl ?_
 replace H:=oI H
 refine xS ?_
 subst H
 refine xrD [] ?_
 exact xO ⟨[1,2,3,8],[]⟩
theorem Jh3:Jc Tryz.prog 126∧(∀ g,Zx g→Jn Tryz.prog 126 g)∧(true=true→∀ g,Zx g→∃ val bs ts,g.out=.ret val bs ts) :=
 ⟨JAH,JhK,fun _=>by rintro _ ⟨_,_,_,_,_,_,_,_,_,_,rfl⟩; exact⟨_,_,_,rfl⟩⟩
noncomputable def Jby(a1:List Token):(Int×Nat×(List Token))→Option ((Int×Nat×(List Token)) ⊕ YN)
 | (x1,x2,x3)=>if(leI 0 x1)=true then if(0:Int)≤x1∧x1.toNat<a1.length then if x1.toNat<a1.length then if x2≤x3.length∧(x2 + [(a1.getD x1.toNat default)].length) * 120≤140737488355328 then some (.inl (IntKind.i64.wrap (x1-1),x2 + [(a1.getD x1.toNat default)].length,(List.take x2 x3)++[(a1.getD x1.toNat default)])) else none else none else none else inrO (some (x2,x3))
noncomputable def JcK(a0:Nat)(a1 a2:List Token):Option YN :=
 Jy (Jby a1) (IntKind.i64.wrap (((a1.length:Nat):Int)-1),a0,a2)
def Zw(a0:Nat)(a1 a2:List Token)(r:YN):GI :=
 ⟨[.c (.pt 1 0),.c (.os 2 11 0 a1.length)],[[.os 3 11 0 a0],[.arr 11 (List.map Ja a1)],[.arr 11 (List.map Ja a2)]],[],.ret (.tu []) [[.os 4 11 0 r.1],[],[],[.arr 11 (List.map Ja r.2)]] []⟩
def Zq:GI→Prop:=Sg3 JcK Zw
theorem JhM:∀ g,Zq g→Jn Tryz.prog 121 g:=by
 rintro _ ⟨a0,a1,a2,r,H,rfl⟩
 refine xGn mixed [] [] [] trivial trivial trivial Tryz.func121 _ ?_
 have G:=True.intro
 have Y:=xZ y_24 <| xZ y_44 <| xZ Jnm <| xZ Tryz.results121 <| xZ Jl.eq_1 <| xZ Ja.eq_1 <| Zw.eq_1
 dsimp only[Zw]
 simp only[JcK]at H
 refine xS ?_
 refine xrn 2 1 ?_
 refine xrn 3 1 ?_
 refine xr ?_
 refine JZ (Jby a1) (fun s=>[(0,.c (.pt 1 0)),(1,.c (.os 4 11 0 a1.length)),(4,cI s.1)]) (fun s=>[[.os 5 11 0 s.2.1],[],[],[.arr 11 (List.map Ja a1)],[.arr 11 (List.map Ja s.2.2)]]) [] H (xK ⟨[1,2,3,4,5],[]⟩) ?_
 rintro n1 ⟨x1,x2,x3⟩ o1 H hF1
 rw[Jby]at H
 refine xS ?_
 refine xr ?_
 rcases xB Y G H with⟨p,H,F,G,q⟩|⟨p,H,F,G,q⟩
 ·refine xT ?_
  obtain⟨g,H⟩:=Jd H
  obtain⟨g,H⟩:=Jd H
  have F:=xZ Y (Ji Ja a1 x1.toNat default default (by omega))
  obtain⟨g,H⟩:=Jd H
  have F:=xZ F (JQ KV [(a1.getD x1.toNat default)])
  have T:=JeP x3 x2 (by omega)
  have F:=xZ F (Nat.min_eq_left (show x2≤x3.length by omega))
  have G:=xZ G (Nat.min_eq_left (show x2≤x3.length by omega))
  have F:=xZ F (JcH Ja T)
  have G:=xZ G (JcH Ja T)
  have L:[(a1.getD x1.toNat default)].length=1:=rfl
  refine xR ?_
  refine xr ?_
  exact JA (JF H hF1) (xK ⟨[1,2,3,4,6],[]⟩)
 replace H:=Js H hF1
 replace H:=oI H
 refine xE ?_
 subst H
 refine xnD [] ?_
 exact xO ⟨[1,2,3,5],[]⟩
theorem Jh4:Jc Tryz.prog 121∧(∀ g,Zq g→Jn Tryz.prog 121 g)∧(true=true→∀ g,Zq g→∃ val bs ts,g.out=.ret val bs ts) :=
 ⟨JtO,JhM,fun _=>by rintro _ ⟨_,_,_,_,_,rfl⟩; exact⟨_,_,_,rfl⟩⟩
noncomputable def Zc(a0:Nat)(a1:List Token):Option Yg :=
 if(0:Int)≤(IntKind.i64.wrap (((a0:Nat):Int)-1))∧(IntKind.i64.wrap (((a0:Nat):Int)-1)).toNat<a0 then if(IntKind.i64.wrap (((a0:Nat):Int)-1)).toNat<a1.length then if(0:Int)≤0∧0≤(IntKind.i64.wrap (((a0:Nat):Int)-1))∧(IntKind.i64.wrap (((a0:Nat):Int)-1))≤((a0:Nat):Int) then some ((a1.getD ((IntKind.i64.wrap (((a0:Nat):Int)-1)).toNat) default).Kind,(a1.getD ((IntKind.i64.wrap (((a0:Nat):Int)-1)).toNat) default).Text,(a1.getD ((IntKind.i64.wrap (((a0:Nat):Int)-1)).toNat) default).Space,(a1.getD ((IntKind.i64.wrap (((a0:Nat):Int)-1)).toNat) default).First,(a1.getD ((IntKind.i64.wrap (((a0:Nat):Int)-1)).toNat) default).File,(a1.getD ((IntKind.i64.wrap (((a0:Nat):Int)-1)).toNat) default).At,(a1.getD ((IntKind.i64.wrap (((a0:Nat):Int)-1)).toNat) default).End,(a1.getD ((IntKind.i64.wrap (((a0:Nat):Int)-1)).toNat) default).Line,(a1.getD ((IntKind.i64.wrap (((a0:Nat):Int)-1)).toNat) default).Hide,(a1.getD ((IntKind.i64.wrap (((a0:Nat):Int)-1)).toNat) default).Calls,(a1.getD ((IntKind.i64.wrap (((a0:Nat):Int)-1)).toNat) default).Made,(IntKind.i64.wrap (((a0:Nat):Int)-1)).toNat) else none else none else none
def ZW(a0:Nat)(a1:List Token)(r:Yg):GI :=
 ⟨[.c (.pt 1 0)],[[.os 2 11 0 a0],[.arr 11 (List.map Ja a1)]],[],.ret (.ag [kI r.1,kS r.2.1,kB r.2.2.1,kB r.2.2.2.1,kI r.2.2.2.2.1,kI r.2.2.2.2.2.1,kI r.2.2.2.2.2.2.1,kI r.2.2.2.2.2.2.2.1,.d (.sl 1 (List.map dS r.2.2.2.2.2.2.2.2.1)),.d (.sl 3 (List.map Jl r.2.2.2.2.2.2.2.2.2.1)),kI r.2.2.2.2.2.2.2.2.2.2.1]) [[.os 2 11 0 r.2.2.2.2.2.2.2.2.2.2.2],[.arr 11 (List.map Ja a1)]] []⟩
def Z8:GI→Prop:=Sg2 Zc ZW
theorem Jh7:∀ g,Z8 g→Jn Tryz.prog 122 g:=by
 rintro _ ⟨a0,a1,r,H,rfl⟩
 refine xGn mixed [] [] [] trivial trivial trivial Tryz.func122 _ ?_
 have G:=True.intro
 have Y:=xZ y_44 <| xZ Jnm <| xZ Tryz.results122 <| xZ Jl.eq_1 <| xZ Ja.eq_1 <| ZW.eq_1
 dsimp only[ZW]
 simp only[Zc]at H
 refine xS ?_
 refine xr ?_
 obtain⟨g,H⟩:=Jd H
 obtain⟨g,H⟩:=Jd H
 have F:=xZ Y (Ji Ja a1 ((IntKind.i64.wrap (((a0:Nat):Int)-1)).toNat) default default (by omega))
 refine xR ?_
 obtain⟨g,H⟩:=Jd H
 refine xr ?_
 replace H:=oI H
 refine xr ?_
 subst H
 refine xrD [] ?_
 exact xO ⟨[1,2],[]⟩
theorem Jiv:Jc Tryz.prog 122∧(∀ g,Z8 g→Jn Tryz.prog 122 g)∧(true=true→∀ g,Z8 g→∃ val bs ts,g.out=.ret val bs ts) :=
 ⟨JBi,Jh7,fun _=>by rintro _ ⟨_,_,_,_,rfl⟩; exact⟨_,_,_,rfl⟩⟩
noncomputable def Km(a1:List Macro)(a2:List Source)(a4:Int)(x3 x4:List Token)(r3 x5 x7:Int)(x8:List UInt8)(x9 x10:Bool)(x11 x12 x13 x14:Int)(x15:List (List UInt8))(x16:List Call)(x17:Int):(Bool×Nat)→Option Yh
 | (x18,x19)=>if x18=true then if(x3.length + [(⟨x7,x8,x9,x10,x11,x12,x13,x14,x15,x16,x17⟩:Token)].length) * 120≤140737488355328 then if(ltI a4 ((x3.length + [(⟨x7,x8,x9,x10,x11,x12,x13,x14,x15,x16,x17⟩:Token)].length:Nat):Int))=true then(Jgo 4 x7 x8 x9 x10 x11 x12 x13 x14 x15 x16 x17).bind fun e2=>inrO (some (.er (4,x11,x12,r3))) else some (.inl (r3,x19,x3++[(⟨x7,x8,x9,x10,x11,x12,x13,x14,x15,x16,x17⟩:Token)],x4)) else none else if(0:Int)≤x5∧x5.toNat<a1.length then(JcQ (a1.getD x5.toNat default) (⟨x7,x8,x9,x10,x11,x12,x13,x14,x15,x16,x17⟩:Token) a1 a2 r3 a4 x19 x4).bind fun r5=>(JcK r5.1 r5.2 x4).bind fun r6=>some (.inl (r3,r6.1,x3,r6.2)) else none
noncomputable def Kn(a1:List Macro)(a2:List Source)(a4:Int)(x3 x4:List Token)(r3:Int):(Int×Nat×Int×(List UInt8)×Bool×Bool×Int×Int×Int×Int×YR×(List Call)×Int)→Option Yh
 | (x5,x6,x7,x8,x9,x10,x11,x12,x13,x14,x15,x16,x17)=>if(ltI x5 0)=true then Km a1 a2 a4 x3 x4 r3 x5 x7 x8 x9 x10 x11 x12 x13 x14 x15 x16 x17 (true,x6) else if(0:Int)≤x5∧x5.toNat<a1.length then if((a1.getD x5.toNat default).Call)=true then if(eqI ((x6:Nat):Int) 0)=true then Km a1 a2 a4 x3 x4 r3 x5 x7 x8 x9 x10 x11 x12 x13 x14 x15 x16 x17 (true,x6) else if(0:Int)≤(IntKind.i64.wrap (((x6:Nat):Int)-1))∧(IntKind.i64.wrap (((x6:Nat):Int)-1)).toNat<x6 then if(IntKind.i64.wrap (((x6:Nat):Int)-1)).toNat<x4.length then if(!eqS ((x4.getD ((IntKind.i64.wrap (((x6:Nat):Int)-1)).toNat) default).Text) [40])=true then Km a1 a2 a4 x3 x4 r3 x5 x7 x8 x9 x10 x11 x12 x13 x14 x15 x16 x17 (true,x6) else if(0:Int)≤(IntKind.i64.wrap (((x6:Nat):Int)-1))∧(IntKind.i64.wrap (((x6:Nat):Int)-1)).toNat<x6 then if(IntKind.i64.wrap (((x6:Nat):Int)-1)).toNat<x4.length then Km a1 a2 a4 x3 x4 r3 x5 x7 x8 x9 x10 x11 x12 x13 x14 x15 x16 x17 (!eqI ((x4.getD ((IntKind.i64.wrap (((x6:Nat):Int)-1)).toNat) default).Kind) 5,x6) else none else none else none else none else Km a1 a2 a4 x3 x4 r3 x5 x7 x8 x9 x10 x11 x12 x13 x14 x15 x16 x17 (false,x6) else none
noncomputable def KF(a1:List Macro)(a2:List Source)(a4:Int)(x3 x4:List Token)(r2:Yg)(r3:Int):(Bool×Nat)→Option Yh
 | (x30,x31)=>if x30=true then(KB a1 r2.2.1).bind fun r8=>Kn a1 a2 a4 x3 x4 r3 (r8,x31,r2.1,r2.2.1,r2.2.2.1,r2.2.2.2.1,r2.2.2.2.2.1,r2.2.2.2.2.2.1,r2.2.2.2.2.2.2.1,r2.2.2.2.2.2.2.2.1,r2.2.2.2.2.2.2.2.2.1,r2.2.2.2.2.2.2.2.2.2.1,r2.2.2.2.2.2.2.2.2.2.2.1) else Kn a1 a2 a4 x3 x4 r3 ((-1),x31,r2.1,r2.2.1,r2.2.2.1,r2.2.2.2.1,r2.2.2.2.2.1,r2.2.2.2.2.2.1,r2.2.2.2.2.2.2.1,r2.2.2.2.2.2.2.2.1,r2.2.2.2.2.2.2.2.2.1,r2.2.2.2.2.2.2.2.2.2.1,r2.2.2.2.2.2.2.2.2.2.2.1)
noncomputable def KI(a1:List Macro)(a2:List Source)(a4:Int)(x3 x4:List Token)(r2:Yg)(r3:Int)(r7:YD):(Bool×Nat×Bool×Bool×Int×Int×Int×Int×YR×(List Call))→Option Yh
 | (x20,x21,x22,x23,x24,x25,x26,x27,x28,x29)=>if x20=true then Kn a1 a2 a4 x3 x4 r3 ((-1),x21,r7.1,r7.2.1,x22,x23,x24,x25,x26,x27,x28,x29,r7.2.2.1) else if(eqI r2.1 1)=true then(Kw r2.2.2.2.2.2.2.2.2.1 r2.2.1).bind fun r9=>KF a1 a2 a4 x3 x4 r2 r3 (!r9,x21) else KF a1 a2 a4 x3 x4 r2 r3 (false,x21)
noncomputable def KJ(a1:List Macro)(a2:List Source)(a4:Int):(Int×Nat×(List Token)×(List Token))→Option Yh
 | (x1,x2,x3,x4)=>if(ltI 0 ((x2:Nat):Int))=true then(Zc x2 x4).bind fun r2=>grB (JaK a1 a2 x1 a4 r2.1 r2.2.1 r2.2.2.1 r2.2.2.2.1 r2.2.2.2.2.1 r2.2.2.2.2.2.1 r2.2.2.2.2.2.2.1 r2.2.2.2.2.2.2.2.1 r2.2.2.2.2.2.2.2.2.1 r2.2.2.2.2.2.2.2.2.2.1 r2.2.2.2.2.2.2.2.2.2.2.1) (fun r3=>(J8 (⟨r2.1,r2.2.1,r2.2.2.1,r2.2.2.2.1,r2.2.2.2.2.1,r2.2.2.2.2.2.1,r2.2.2.2.2.2.2.1,r2.2.2.2.2.2.2.2.1,r2.2.2.2.2.2.2.2.2.1,r2.2.2.2.2.2.2.2.2.2.1,r2.2.2.2.2.2.2.2.2.2.2.1⟩:Token) a1 a2 r3 a4).bind fun r7=>if r7.2.2.2=true then KI a1 a2 a4 x3 x4 r2 r3 r7 (eqI r2.1 1,r2.2.2.2.2.2.2.2.2.2.2.2,(⟨r2.1,r2.2.1,r2.2.2.1,r2.2.2.2.1,r2.2.2.2.2.1,r2.2.2.2.2.2.1,r2.2.2.2.2.2.2.1,r2.2.2.2.2.2.2.2.1,r2.2.2.2.2.2.2.2.2.1,r2.2.2.2.2.2.2.2.2.2.1,r2.2.2.2.2.2.2.2.2.2.2.1⟩:Token).Space,(⟨r2.1,r2.2.1,r2.2.2.1,r2.2.2.2.1,r2.2.2.2.2.1,r2.2.2.2.2.2.1,r2.2.2.2.2.2.2.1,r2.2.2.2.2.2.2.2.1,r2.2.2.2.2.2.2.2.2.1,r2.2.2.2.2.2.2.2.2.2.1,r2.2.2.2.2.2.2.2.2.2.2.1⟩:Token).First,(⟨r2.1,r2.2.1,r2.2.2.1,r2.2.2.2.1,r2.2.2.2.2.1,r2.2.2.2.2.2.1,r2.2.2.2.2.2.2.1,r2.2.2.2.2.2.2.2.1,r2.2.2.2.2.2.2.2.2.1,r2.2.2.2.2.2.2.2.2.2.1,r2.2.2.2.2.2.2.2.2.2.2.1⟩:Token).File,(⟨r2.1,r2.2.1,r2.2.2.1,r2.2.2.2.1,r2.2.2.2.2.1,r2.2.2.2.2.2.1,r2.2.2.2.2.2.2.1,r2.2.2.2.2.2.2.2.1,r2.2.2.2.2.2.2.2.2.1,r2.2.2.2.2.2.2.2.2.2.1,r2.2.2.2.2.2.2.2.2.2.2.1⟩:Token).At,(⟨r2.1,r2.2.1,r2.2.2.1,r2.2.2.2.1,r2.2.2.2.2.1,r2.2.2.2.2.2.1,r2.2.2.2.2.2.2.1,r2.2.2.2.2.2.2.2.1,r2.2.2.2.2.2.2.2.2.1,r2.2.2.2.2.2.2.2.2.2.1,r2.2.2.2.2.2.2.2.2.2.2.1⟩:Token).End,(⟨r2.1,r2.2.1,r2.2.2.1,r2.2.2.2.1,r2.2.2.2.2.1,r2.2.2.2.2.2.1,r2.2.2.2.2.2.2.1,r2.2.2.2.2.2.2.2.1,r2.2.2.2.2.2.2.2.2.1,r2.2.2.2.2.2.2.2.2.2.1,r2.2.2.2.2.2.2.2.2.2.2.1⟩:Token).Line,(⟨r2.1,r2.2.1,r2.2.2.1,r2.2.2.2.1,r2.2.2.2.2.1,r2.2.2.2.2.2.1,r2.2.2.2.2.2.2.1,r2.2.2.2.2.2.2.2.1,r2.2.2.2.2.2.2.2.2.1,r2.2.2.2.2.2.2.2.2.2.1,r2.2.2.2.2.2.2.2.2.2.2.1⟩:Token).Hide,(⟨r2.1,r2.2.1,r2.2.2.1,r2.2.2.2.1,r2.2.2.2.2.1,r2.2.2.2.2.2.1,r2.2.2.2.2.2.2.1,r2.2.2.2.2.2.2.2.1,r2.2.2.2.2.2.2.2.2.1,r2.2.2.2.2.2.2.2.2.2.1,r2.2.2.2.2.2.2.2.2.2.2.1⟩:Token).Calls) else KI a1 a2 a4 x3 x4 r2 r3 r7 (false,r2.2.2.2.2.2.2.2.2.2.2.2,(⟨r2.1,r2.2.1,r2.2.2.1,r2.2.2.2.1,r2.2.2.2.2.1,r2.2.2.2.2.2.1,r2.2.2.2.2.2.2.1,r2.2.2.2.2.2.2.2.1,r2.2.2.2.2.2.2.2.2.1,r2.2.2.2.2.2.2.2.2.2.1,r2.2.2.2.2.2.2.2.2.2.2.1⟩:Token).Space,(⟨r2.1,r2.2.1,r2.2.2.1,r2.2.2.2.1,r2.2.2.2.2.1,r2.2.2.2.2.2.1,r2.2.2.2.2.2.2.1,r2.2.2.2.2.2.2.2.1,r2.2.2.2.2.2.2.2.2.1,r2.2.2.2.2.2.2.2.2.2.1,r2.2.2.2.2.2.2.2.2.2.2.1⟩:Token).First,(⟨r2.1,r2.2.1,r2.2.2.1,r2.2.2.2.1,r2.2.2.2.2.1,r2.2.2.2.2.2.1,r2.2.2.2.2.2.2.1,r2.2.2.2.2.2.2.2.1,r2.2.2.2.2.2.2.2.2.1,r2.2.2.2.2.2.2.2.2.2.1,r2.2.2.2.2.2.2.2.2.2.2.1⟩:Token).File,(⟨r2.1,r2.2.1,r2.2.2.1,r2.2.2.2.1,r2.2.2.2.2.1,r2.2.2.2.2.2.1,r2.2.2.2.2.2.2.1,r2.2.2.2.2.2.2.2.1,r2.2.2.2.2.2.2.2.2.1,r2.2.2.2.2.2.2.2.2.2.1,r2.2.2.2.2.2.2.2.2.2.2.1⟩:Token).At,(⟨r2.1,r2.2.1,r2.2.2.1,r2.2.2.2.1,r2.2.2.2.2.1,r2.2.2.2.2.2.1,r2.2.2.2.2.2.2.1,r2.2.2.2.2.2.2.2.1,r2.2.2.2.2.2.2.2.2.1,r2.2.2.2.2.2.2.2.2.2.1,r2.2.2.2.2.2.2.2.2.2.2.1⟩:Token).End,(⟨r2.1,r2.2.1,r2.2.2.1,r2.2.2.2.1,r2.2.2.2.2.1,r2.2.2.2.2.2.1,r2.2.2.2.2.2.2.1,r2.2.2.2.2.2.2.2.1,r2.2.2.2.2.2.2.2.2.1,r2.2.2.2.2.2.2.2.2.2.1,r2.2.2.2.2.2.2.2.2.2.2.1⟩:Token).Line,(⟨r2.1,r2.2.1,r2.2.2.1,r2.2.2.2.1,r2.2.2.2.2.1,r2.2.2.2.2.2.1,r2.2.2.2.2.2.2.1,r2.2.2.2.2.2.2.2.1,r2.2.2.2.2.2.2.2.2.1,r2.2.2.2.2.2.2.2.2.2.1,r2.2.2.2.2.2.2.2.2.2.2.1⟩:Token).Hide,(⟨r2.1,r2.2.1,r2.2.2.1,r2.2.2.2.1,r2.2.2.2.2.1,r2.2.2.2.2.2.1,r2.2.2.2.2.2.2.1,r2.2.2.2.2.2.2.2.1,r2.2.2.2.2.2.2.2.2.1,r2.2.2.2.2.2.2.2.2.2.1,r2.2.2.2.2.2.2.2.2.2.2.1⟩:Token).Calls)) (fun e1=>inrO (some (.er (11,r2.2.2.2.2.1,r2.2.2.2.2.2.1,x1)))) else inrO (some (.ok (x3,x1)))
noncomputable def Zb(a0:List Token)(a1:List Macro)(a2:List Source)(a3 a4:Int):Option (GR YJ YO) :=
 (Jaq a0 []).bind fun r1=>Jy (KJ a1 a2 a4) (a3,r1.length,([]:List Token),r1)
def JiD(a0:List Token)(a1:List Macro)(a2:List Source)(a3 a4:Int):GR YJ YO→GOut
 | .ok r=>.ret (.c (.d (.sl 11 (List.map Ja r.1)))) [[.d (.sl 5 (List.map Je a1)),.d (.sl 2 (List.map Jf a2)),kI r.2,kI a4]] []
 | .er r=>.pan (.iface 170 (.agg ⟨[.int .i64 r.1,.int .i64 r.2.1,.int .i64 r.2.2.1]⟩)) [[.d (.sl 5 (List.map Je a1)),.d (.sl 2 (List.map Jf a2)),kI r.2.2.2,kI a4]] []
def Z1(a0:List Token)(a1:List Macro)(a2:List Source)(a3 a4:Int)(r:GR YJ YO):GI :=
 ⟨[.c (.pt 1 0),.c (.d (.sl 11 (List.map Ja a0)))],[[.d (.sl 5 (List.map Je a1)),.d (.sl 2 (List.map Jf a2)),kI a3,kI a4]],[],JiD a0 a1 a2 a3 a4 r⟩
def ZX:GI→Prop:=Sg5 Zb Z1
theorem Jib:∀ g,ZX g→Jn Tryz.prog 104 g:=by
 rintro _ ⟨a0,a1,a2,a3,a4,r,H,rfl⟩
 refine xGn mixed [(86,Jc7),(108,VG)] [(121,true,Jbv),(122,true,Z8),(123,false,Zv),(125,false,Jdd),(126,true,Zx),(121,true,Zq),(124,true,X2)] [] ⟨⟨Jo9,JgD⟩,⟨JBD,Jel⟩,trivial⟩ ⟨Jkk,Jiv,Jim,Jj6,Jh3,Jh4,JhJ,trivial⟩ trivial Tryz.func104 _ ?_
 have G:=True.intro
 have Y:=xZ y_3 <| xZ y_4 <| xZ y_9 <| xZ y_24 <| xZ y_28 <| xZ y_41 <| xZ y_44 <| xZ y_63 <| xZ Jts <| xZ Jnm <| xZ Tryz.results104 <| xZ Jf.eq_1 <| xZ Jl.eq_1 <| xZ Ja.eq_1 <| xZ Je.eq_1 <| xZ Jbs.eq_1 <| xZ ZW.eq_1 <| xZ Zu.eq_1 <| xZ Jc9.eq_1 <| xZ Zy.eq_1 <| xZ Zw.eq_1 <| xZ X1.eq_1 <| Z1.eq_1
 dsimp only[Z1]
 simp only[Zb]at H
 refine xS ?_
 refine xr ?_
 refine xr ?_
 obtain⟨r1,hr1,H⟩:=Jj H
 have F:=Y
 refine xQ ?_
 refine xs 1 ?_
 refine xc ⟨[2,0],[]⟩ (tabG 0 (cg2 hr1)) ?_
 refine xl ?_
 refine xS ?_
 refine xr ?_
 refine JZ (KJ a1 a2 a4) (fun s=>[(0,.c (.pt 1 0)),(5,.c (.pt 2 0)),(6,.c (.os 3 11 0 s.2.2.1.length))]) (fun s=>[[.d (.sl 5 (List.map Je a1)),.d (.sl 2 (List.map Jf a2)),kI s.1,kI a4],[.os 4 11 0 s.2.1],[.arr 11 (List.map Ja s.2.2.1)],[.arr 11 (List.map Ja s.2.2.2)]]) [] H (xK ⟨[1,2,0,5],[]⟩) ?_
 rintro n1 ⟨x1,x2,x3,x4⟩ o1 H hF1
 rw[KJ]at H
 refine xS ?_
 refine xr ?_
 rcases xB Y G H with⟨p,H,F,G,q⟩|⟨p,H,F,G,q⟩
 ·refine xT ?_
  obtain⟨r2,hr2,H⟩:=Jj H
  have F:=Y
  refine xQ ?_
  refine xc ⟨[2,4],[]⟩ (tabG 1 (cg2 hr2)) ?_
  refine xs 2 ?_
  refine xl ?_
  refine xS ?_
  rcases ZN H with⟨r3,hr3,H⟩|⟨e1,hr4,H⟩
  ·have F:=Y
   refine xQ ?_
   refine xs 1 ?_
   refine xc ⟨[1,7],[]⟩ (tabG 2 (cg15 hr3)) ?_
   refine xl ?_
   refine xS ?_
   refine xr0 ?_
   refine Jm ?_
   refine Jp (Kn a1 a2 a4 x3 x4 r3) (fun s=>[(0,.c (.pt 1 0)),(5,.c (.pt 2 0)),(6,.c (.os 3 11 0 x3.length)),(7,.c (.pt 4 0)),(8,cI s.1)]) (fun s=>[[.d (.sl 5 (List.map Je a1)),.d (.sl 2 (List.map Jf a2)),kI r3,kI a4],[.os 5 11 0 s.2.1],[.arr 11 (List.map Ja x3)],[kI s.2.2.1,kS s.2.2.2.1,kB s.2.2.2.2.1,kB s.2.2.2.2.2.1,kI s.2.2.2.2.2.2.1,kI s.2.2.2.2.2.2.2.1,kI s.2.2.2.2.2.2.2.2.1,kI s.2.2.2.2.2.2.2.2.2.1,.d (.sl 1 (List.map dS s.2.2.2.2.2.2.2.2.2.2.1)),.d (.sl 3 (List.map Jl s.2.2.2.2.2.2.2.2.2.2.2.1)),kI s.2.2.2.2.2.2.2.2.2.2.2.2],[.arr 11 (List.map Ja x4)]]) [] o1 ?_ ?_
   ·refine xS ?_
    obtain⟨r7,hr9,H⟩:=Jj H
    have F:=Y
    refine xQ ?_
    refine xs 2 ?_
    refine xc ⟨[1],[]⟩ (tabG 6 (cg5 hr9)) ?_
    refine xs 6 ?_
    refine xl ?_
    refine  ?_
    refine Jm ?_
    refine Jp (KI a1 a2 a4 x3 x4 r2 r3 r7) (fun s=>[(0,.c (.pt 1 0)),(5,.c (.pt 2 0)),(6,.c (.os 3 11 0 x3.length)),(7,.c (.pt 4 0)),(8,cI (-1)),(9,.c (.pt 5 0)),(30,cB s.1)]) (fun s=>[[.d (.sl 5 (List.map Je a1)),.d (.sl 2 (List.map Jf a2)),kI r3,kI a4],[.os 6 11 0 s.2.1],[.arr 11 (List.map Ja x3)],[kI r2.1,kS r2.2.1,kB r2.2.2.1,kB r2.2.2.2.1,kI r2.2.2.2.2.1,kI r2.2.2.2.2.2.1,kI r2.2.2.2.2.2.2.1,kI r2.2.2.2.2.2.2.2.1,.d (.sl 1 (List.map dS r2.2.2.2.2.2.2.2.2.1)),.d (.sl 3 (List.map Jl r2.2.2.2.2.2.2.2.2.2.1)),kI r2.2.2.2.2.2.2.2.2.2.2.1],[kI r7.1,kS r7.2.1,kB s.2.2.1,kB s.2.2.2.1,kI s.2.2.2.2.1,kI s.2.2.2.2.2.1,kI s.2.2.2.2.2.2.1,kI s.2.2.2.2.2.2.2.1,.d (.sl 1 (List.map dS s.2.2.2.2.2.2.2.2.1)),.d (.sl 3 (List.map Jl s.2.2.2.2.2.2.2.2.2)),kI r7.2.2.1],[.arr 11 (List.map Ja x4)]]) [] o1 ?_ ?_
    ·rcases xB Y G H with⟨p,H,F,G,q⟩|⟨p,H,F,G,q⟩
     ·refine xR ?_
      exact Jb H (xK ⟨[1,2,3,7,11,4],[]⟩)
     refine xR ?_
     exact Jb H (xK ⟨[1,2,3,7,11,4],[]⟩)
    rintro ⟨x20,x21,x22,x23,x24,x25,x26,x27,x28,x29⟩ H
    rw[KI]at H
    rcases xB Y G H with⟨p,H,F,G,q⟩|⟨p,H,F,G,q⟩
    ·refine xT ?_
     refine xr ?_
     exact Jb H (xK ⟨[1,2,3,4,6],[]⟩)
    refine xE0 ?_
    refine Jp (KF a1 a2 a4 x3 x4 r2 r3) (fun s=>[(0,.c (.pt 1 0)),(5,.c (.pt 2 0)),(6,.c (.os 3 11 0 x3.length)),(7,.c (.pt 4 0)),(8,cI (-1)),(42,cB s.1)]) (fun s=>[[.d (.sl 5 (List.map Je a1)),.d (.sl 2 (List.map Jf a2)),kI r3,kI a4],[.os 5 11 0 s.2],[.arr 11 (List.map Ja x3)],[kI r2.1,kS r2.2.1,kB r2.2.2.1,kB r2.2.2.2.1,kI r2.2.2.2.2.1,kI r2.2.2.2.2.2.1,kI r2.2.2.2.2.2.2.1,kI r2.2.2.2.2.2.2.2.1,.d (.sl 1 (List.map dS r2.2.2.2.2.2.2.2.2.1)),.d (.sl 3 (List.map Jl r2.2.2.2.2.2.2.2.2.2.1)),kI r2.2.2.2.2.2.2.2.2.2.2.1],[.arr 11 (List.map Ja x4)]]) [] o1 ?_ ?_
    ·rcases xB Y G H with⟨p,H,F,G,q⟩|⟨p,H,F,G,q⟩
     ·obtain⟨r9,hr11,H⟩:=Jj H
      have F:=xCf F (Jev r2.2.2.2.2.2.2.2.2.1 r2.2.1 r9 hr11)
      refine xR ?_
      exact Jb H (xK ⟨[1,2,3,4,6],[]⟩)
     refine xR ?_
     exact Jb H (xK ⟨[1,2,3,4,6],[]⟩)
    rintro ⟨x30,x31⟩ H
    rw[KF]at H
    rcases xB Y G H with⟨p,H,F,G,q⟩|⟨p,H,F,G,q⟩
    ·refine xT ?_
     obtain⟨r8,hr10,H⟩:=Jj H
     have F:=xC Y (Jht a1 r2.2.1 r8 hr10)
     refine xR ?_
     exact Jb H (xK ⟨[1,2,3,4,5],[]⟩)
    refine xE ?_
    exact Jb H (xK ⟨[1,2,3,4,5],[]⟩)
   rintro ⟨x5,x6,x7,x8,x9,x10,x11,x12,x13,x14,x15,x16,x17⟩ H
   rw[Kn]at H
   refine Vi ?_
   refine Jp (Km a1 a2 a4 x3 x4 r3 x5 x7 x8 x9 x10 x11 x12 x13 x14 x15 x16 x17) (fun s=>[(0,.c (.pt 1 0)),(5,.c (.pt 2 0)),(6,.c (.os 3 11 0 x3.length)),(7,.c (.pt 4 0)),(8,cI x5),(86,cB s.1)]) (fun s=>[[.d (.sl 5 (List.map Je a1)),.d (.sl 2 (List.map Jf a2)),kI r3,kI a4],[.os 5 11 0 s.2],[.arr 11 (List.map Ja x3)],[kI x7,kS x8,kB x9,kB x10,kI x11,kI x12,kI x13,kI x14,.d (.sl 1 (List.map dS x15)),.d (.sl 3 (List.map Jl x16)),kI x17],[.arr 11 (List.map Ja x4)]]) [] o1 ?_ ?_
   ·rcases xB Y G H with⟨p,H,F,G,q⟩|⟨p,H,F,G,q⟩
    ·refine xR ?_
     exact Jb H (xK ⟨[1,2,3,4,5],[]⟩)
    obtain⟨g,H⟩:=Jd H
    have F:=xZ F (Ji Je a1 x5.toNat default default (by omega))
    rcases xB F G H with⟨p,H,F,G,q⟩|⟨p,H,F,G,q⟩
    ·rcases xB F G H with⟨p,H,F,G,q⟩|⟨p,H,F,G,q⟩
     ·refine xR ?_
      exact Jb H (xK ⟨[1,2,3,4,5],[]⟩)
     obtain⟨g,H⟩:=Jd H
     obtain⟨g,H⟩:=Jd H
     have F:=xZ F (Ji Ja x4 ((IntKind.i64.wrap (((x6:Nat):Int)-1)).toNat) default default (by omega))
     rcases xB F G H with⟨p,H,F,G,q⟩|⟨p,H,F,G,q⟩
     ·refine xR ?_
      exact Jb H (xK ⟨[1,2,3,4,5],[]⟩)
     obtain⟨g,H⟩:=Jd H
     obtain⟨g,H⟩:=Jd H
     have F:=xZ F (Ji Ja x4 ((IntKind.i64.wrap (((x6:Nat):Int)-1)).toNat) default default (by omega))
     refine xR ?_
     exact Jb H (xK ⟨[1,2,3,4,5],[]⟩)
    refine xR ?_
    exact Jb H (xK ⟨[1,2,3,4,5],[]⟩)
   rintro ⟨x18,x19⟩ H
   rw[Km]at H
   rcases xB Y G H with⟨p,H,F,G,q⟩|⟨p,H,F,G,q⟩
   ·refine xT ?_
    obtain⟨g,H⟩:=Jd H
    have F:=xZ Y (JQ KV [(⟨x7,x8,x9,x10,x11,x12,x13,x14,x15,x16,x17⟩:Token)])
    have L:[(⟨x7,x8,x9,x10,x11,x12,x13,x14,x15,x16,x17⟩:Token)].length=1:=rfl
    refine xR ?_
    refine xr ?_
    rcases xB Y G H with⟨p,H,F,G,q⟩|⟨p,H,F,G,q⟩
    ·refine xT ?_
     obtain⟨e2,hr6,H⟩:=Jj H
     have F:=Y
     refine xQp [98] ?_
     refine xp ⟨[4],[]⟩ (tabG 3 (cg12 hr6)) ?_
     replace H:=Js H hF1
     replace H:=oI H
     refine xS ?_
     subst H
     refine xpD [] ?_
     exact xOv ⟨[1],[]⟩
    refine xE ?_
    exact JA (JF H hF1) (xK ⟨[1,2,6,5],[]⟩)
   refine xE ?_
   obtain⟨g,H⟩:=Jd H
   have F:=xZ Y (Ji Je a1 x5.toNat default default (by omega))
   obtain⟨r5,hr7,H⟩:=Jj H
   have F:=F
   obtain⟨r6,hr8,H⟩:=Jj H
   have F:=F
   refine xQ ?_
   refine xs 8 ?_
   refine xc ⟨[1,2,5],[]⟩ (tabG 4 (cg8 hr7)) ?_
   refine xc ⟨[2,9,5],[]⟩ (tabG 5 (cg3 hr8)) ?_
   refine xl ?_
   refine xS ?_
   exact JA (JF H hF1) (xK ⟨[1,2,3,13],[]⟩)
  have F:=Y
  refine xQp [17,18] ?_
  refine xs 1 ?_
  refine xp ⟨[1,7],[]⟩ (tabG 2 (cg15 hr4)) ?_
  replace H:=Js H hF1
  replace H:=oI H
  refine xS ?_
  subst H
  refine xpD [] ?_
  exact xOv ⟨[1],[]⟩
 replace H:=Js H hF1
 refine xE ?_
 replace H:=oI H
 refine xr ?_
 subst H
 refine xOf 3 11 (List.map Ja x3) [] ?_
 refine xrD [] ?_
 exact xO ⟨[1],[]⟩
theorem JeZ:Jc Tryz.prog 104∧(∀ g,ZX g→Jn Tryz.prog 104 g)∧(false=true→∀ g,ZX g→∃ val bs ts,g.out=.ret val bs ts) :=
 ⟨JA9,Jib,nofun⟩
noncomputable def JdJ(a0 a1 a2:Int):Option Unit :=
 some ()
def Jb4(a0 a1 a2:Int)(r:Unit):DI :=
 ⟨[.c (.pt 1 0)],[[kI a0,kI a1,kI a2]],[],none,[[kI a0,kI a1,kI a2]],[],none⟩
def JfB:DI→Prop:=fun d=>∃ (a0 a1 a2:Int) (r:Unit),JdJ a0 a1 a2=some r∧d=Jb4 a0 a1 a2 r
theorem JoI(a0 a1 a2:Int)(r:Unit)(H:JdJ a0 a1 a2=some r):JfB (Jb4 a0 a1 a2 r):=⟨a0,a1,a2,r,H,rfl⟩
theorem JmI:∀ d,JfB d→DOk Tryz.prog 103 d:=by
 rintro _ ⟨a0,a1,a2,r,H,rfl⟩
 refine xRcl mixed [] [] [] trivial trivial Tryz.func103 _ ?_
 have G:=True.intro
 have Y:=xZ y_20 <| xZ y_31 <| xZ Jyj <| xZ Tryz.results103 <| Jb4.eq_1
 dsimp only[Jb4,Option.getD_some,Option.getD_none]
 unfold JdJ at H
 refine xS ?_
 refine xr ?_
 refine xt ?_
 replace H:=oI H
 refine xr ?_
 subst H
 exact xDn ⟨[1],[]⟩
noncomputable def Jb7(a0 a1 a2:Int)(a3:List Token)(a4:Int):Option YO :=
 if(!eqI a0 0)=true then some (([]:List Token),0) else some (a3,a4)
def ZR(a0 a1 a2:Int)(a3:List Token)(a4:Int)(r:YO)(u:Option Value):DI :=
 ⟨[.c (.pt 1 0),.c (.pt 2 0),.c (.pt 3 0)],[[kI a0,kI a1,kI a2],[.d (.sl 11 (List.map Ja a3))],[kI a4]],[],u,[[kI a0,kI a1,kI a2],[.d (.sl 11 (List.map Ja r.1))],[kI r.2]],[],u⟩
def JdA:DI→Prop:=fun d=>∃ (a0 a1 a2:Int) (a3:List Token) (a4:Int) (r:YO) (u:Option Value),Jb7 a0 a1 a2 a3 a4=some r∧d=ZR a0 a1 a2 a3 a4 r u
theorem Jlk(a0 a1 a2:Int)(a3:List Token)(a4:Int)(r:YO)(u:Option Value)(H:Jb7 a0 a1 a2 a3 a4=some r):JdA (ZR a0 a1 a2 a3 a4 r u):=⟨a0,a1,a2,a3,a4,r,u,H,rfl⟩
theorem Jkn:∀ d,JdA d→DOk Tryz.prog 102 d:=by
 rintro _ ⟨a0,a1,a2,a3,a4,r,u,H,rfl⟩
 refine xDf mixed [] [] trivial trivial Tryz.func102 _ ?_
 have G:=True.intro
 have Y:=xZ y_3 <| xZ y_24 <| xZ y_29 <| xZ y_31 <| xZ Tryz.results102 <| xZ Jl.eq_1 <| xZ Ja.eq_1 <| ZR.eq_1
 dsimp only[ZR]
 simp only[Jb7]at H
 refine xS ?_
 refine xr ?_
 rcases xB Y G H with⟨p,H,F,G,q⟩|⟨p,H,F,G,q⟩
 ·refine xT ?_
  replace H:=oI H
  refine xr ?_
  subst H
  exact xDn ⟨[1,2,3],[]⟩
 replace H:=oI H
 refine xE ?_
 subst H
 exact xDn ⟨[1,2,3],[]⟩
noncomputable def Jdx(a0 a1 a2 a3 a4 a5:Int):Option Unit :=
 some ()
def ZF(a0 a1 a2 a3 a4 a5:Int)(r:Unit):DI :=
 ⟨[.c (.pt 1 0)],[[kI a0,kI a1,kI a2]],[],(some (.iface 170 (.agg ⟨[.int .i64 a3,.int .i64 a4,.int .i64 a5]⟩))),[[kI a3,kI a4,kI a5]],[],none⟩
def JdS:DI→Prop:=fun d=>∃ (a0 a1 a2 a3 a4 a5:Int) (r:Unit),Jdx a0 a1 a2 a3 a4 a5=some r∧d=ZF a0 a1 a2 a3 a4 a5 r
theorem Jlm(a0 a1 a2 a3 a4 a5:Int)(r:Unit)(H:Jdx a0 a1 a2 a3 a4 a5=some r):JdS (ZF a0 a1 a2 a3 a4 a5 r):=⟨a0,a1,a2,a3,a4,a5,r,H,rfl⟩
theorem Jkp:∀ d,JdS d→DOk Tryz.prog 103 d:=by
 rintro _ ⟨a0,a1,a2,a3,a4,a5,r,H,rfl⟩
 refine xRcl mixed [] [] [] trivial trivial Tryz.func103 _ ?_
 have G:=True.intro
 have Y:=xZ y_20 <| xZ y_31 <| xZ Jyj <| xZ Tryz.results103 <| ZF.eq_1
 dsimp only[ZF,Option.getD_some,Option.getD_none]
 unfold Jdx at H
 refine xS ?_
 refine xr ?_
 refine xe ?_
 refine xr ?_
 refine xt ?_
 refine xr ?_
 replace H:=oI H
 refine xr ?_
 subst H
 exact xDn ⟨[1],[]⟩
noncomputable def Jdq(a0 a1 a2:Int)(a3:List Token)(a4:Int):Option YO :=
 if(!eqI a0 0)=true then some (([]:List Token),0) else some (a3,a4)
def ZE(a0 a1 a2:Int)(a3:List Token)(a4:Int)(r:YO)(u:Option Value):DI :=
 ⟨[.c (.pt 1 0),.c (.pt 2 0),.c (.pt 3 0)],[[kI a0,kI a1,kI a2],[.sl 11 (List.map Ja a3) 4],[kI a4]],[44],u,[[kI a0,kI a1,kI a2],[.sl 11 (List.map Ja r.1) 4],[kI r.2]],[44],u⟩
def JdG:DI→Prop:=fun d=>∃ (a0 a1 a2:Int) (a3:List Token) (a4:Int) (r:YO) (u:Option Value),Jdq a0 a1 a2 a3 a4=some r∧d=ZE a0 a1 a2 a3 a4 r u
theorem JkG(a0 a1 a2:Int)(a3:List Token)(a4:Int)(r:YO)(u:Option Value)(H:Jdq a0 a1 a2 a3 a4=some r):JdG (ZE a0 a1 a2 a3 a4 r u):=⟨a0,a1,a2,a3,a4,r,u,H,rfl⟩
theorem Jkh:∀ d,JdG d→DOk Tryz.prog 102 d:=by
 rintro _ ⟨a0,a1,a2,a3,a4,r,u,H,rfl⟩
 refine xDf mixed [] [] trivial trivial Tryz.func102 _ ?_
 have G:=True.intro
 have Y:=xZ y_3 <| xZ y_24 <| xZ y_29 <| xZ y_31 <| xZ Tryz.results102 <| xZ Jl.eq_1 <| xZ Ja.eq_1 <| ZE.eq_1
 dsimp only[ZE]
 simp only[Jdq]at H
 refine xS ?_
 refine xr ?_
 rcases xB Y G H with⟨p,H,F,G,q⟩|⟨p,H,F,G,q⟩
 ·refine xT ?_
  replace H:=oI H
  refine xr ?_
  subst H
  exact xDn ⟨[1,2,3],[0]⟩
 replace H:=oI H
 refine xE ?_
 subst H
 exact xDn ⟨[1,2,3],[4]⟩
noncomputable def Jag(a0:List Source)(a1:List Macro)(a2:List Token)(a3 a4:Int):Bool→Option Yz
 | x1=>if x1=true then some (([]:List Token),0,3,(-1),0) else grB (Zb a2 a1 a0 a3 a4) (fun r1=>(JdJ 0 (-1) 0).bind fun r2=>(Jb7 0 (-1) 0 r1.1 r1.2).bind fun r3=>some (r3.1,r3.2,0,(-1),0)) (fun e1=>(Jdx 0 0 0 e1.1 e1.2.1 e1.2.2.1).bind fun r4=>(Jdq e1.1 e1.2.1 e1.2.2.1 ([]:List Token) 0).bind fun r5=>some (r5.1,r5.2,e1.1,e1.2.1,e1.2.2.1))
noncomputable def JgT(a0:List Source)(a1:List Macro)(a2:List Token)(a3 a4:Int):Option Yz :=
 if(ltI a3 0)=true then Jag a0 a1 a2 a3 a4 true else if(ltI 4000 a3)=true then Jag a0 a1 a2 a3 a4 true else if(ltI a4 0)=true then Jag a0 a1 a2 a3 a4 true else Jag a0 a1 a2 a3 a4 (ltI 1500 a4)
def Jg7(a0:List Source)(a1:List Macro)(a2:List Token)(a3 a4:Int)(r:Yz):GI :=
 ⟨[.c (.d (.sl 2 (List.map Jf a0))),.c (.d (.sl 5 (List.map Je a1))),.c (.d (.sl 11 (List.map Ja a2))),cI a3,cI a4],[],[],.ret (.tu [(false,[.d (.sl 11 (List.map Ja r.1))]),(false,[kI r.2.1]),(true,[kI r.2.2.1,kI r.2.2.2.1,kI r.2.2.2.2])]) [] []⟩
def Jus:GI→Prop:=Sg5 JgT Jg7
theorem Js0:∀ g,Jus g→Jn Tryz.prog 78 g:=by
 rintro _ ⟨a0,a1,a2,a3,a4,r,H,rfl⟩
 refine xGnl mixed [7] [] [(104,false,ZX)] [(103,JfB),(102,JdA),(103,JdS),(102,JdG)] trivial ⟨JeZ,trivial⟩ ⟨⟨Ju6,JmI⟩,⟨JvQ,Jkn⟩,⟨Ju6,Jkp⟩,⟨JvQ,Jkh⟩,trivial⟩ Tryz.func78 _ ?_
 have G:=True.intro
 have Y:=xZ y_3 <| xZ y_24 <| xZ y_28 <| xZ y_29 <| xZ y_31 <| xZ y_37 <| xZ Jts <| xZ Tryz.results78 <| xZ Jf.eq_1 <| xZ Jl.eq_1 <| xZ Ja.eq_1 <| xZ Je.eq_1 <| xZ Z1.eq_1 <| xZ Jb4.eq_1 <| xZ ZR.eq_1 <| xZ ZF.eq_1 <| xZ ZE.eq_1 <| Jg7.eq_1
 dsimp only[Jg7]
 simp only[JgT]at H
 refine xS ?_
 refine xr0 ?_
 refine Jm ?_
 refine Vi ?_
 refine Jp (Jag a0 a1 a2 a3 a4) (fun s=>[(0,.c (.d (.sl 2 (List.map Jf a0)))),(1,.c (.d (.sl 5 (List.map Je a1)))),(2,.c (.d (.sl 11 (List.map Ja a2)))),(3,cI a3),(4,cI a4),(10,.c (.pt 1 0)),(11,.c (.pt 2 0)),(12,.c (.pt 3 0)),(27,cB s)]) (fun s=>[[.sl 11 [] 0],[kI 0],[kI 0,kI 0,kI 0]]) [] r ?_ ?_
 ·rcases xB Y G H with⟨p,H,F,G,q⟩|⟨p,H,F,G,q⟩
  ·refine xR ?_
   exact Jb H (xK ⟨[1,2,3],[]⟩)
  rcases xB F G H with⟨p,H,F,G,q⟩|⟨p,H,F,G,q⟩
  ·refine xR ?_
   exact Jb H (xK ⟨[1,2,3],[]⟩)
  rcases xB F G H with⟨p,H,F,G,q⟩|⟨p,H,F,G,q⟩
  ·refine xR ?_
   exact Jb H (xK ⟨[1,2,3],[]⟩)
  refine xR ?_
  exact Jb H (xK ⟨[1,2,3],[]⟩)
 rintro x1 H
 rw[Jag]at H
 rcases xB Y G H with⟨p,H,F,G,q⟩|⟨p,H,F,G,q⟩
 ·refine xT ?_
  replace H:=oI H
  refine xr ?_
  subst H
  refine xrD [] ?_
  exact xO ⟨[],[]⟩
 refine xE ?_
 have F:=Y
 refine xQ ?_
 refine xs 1 ?_
 refine xw ?_
 refine xl ?_
 refine xS ?_
 have F:=Y
 refine xQ ?_
 refine xw ?_
 refine xl ?_
 refine xS ?_
 refine xr ?_
 rcases ZN H with⟨r1,hr1,H⟩|⟨e1,hr2,H⟩
 ·have F:=Y
  refine xQ ?_
  refine xs 2 ?_
  refine xc ⟨[4],[]⟩ (tabG 0 (cg5 hr1)) ?_
  refine xs 1 ?_
  refine xl ?_
  refine xS ?_
  have F:=Y
  refine xP [0,1,2,3,4,5,6,7,8] [43] ⟨JeZ,trivial⟩ ?_
  refine xsX 4 ?_
  refine xaX ?_
  refine xsX 1 ?_
  refine xbX ?_
  refine xbX ?_
  refine xbX ?_
  refine xlX ?_
  refine xS ?_
  refine xrD [(103,[.pt 3 0]),(102,[.pt 3 0,.pt 1 0,.pt 2 0])] ?_
  obtain⟨r2,hr3,H⟩:=Jj H
  refine xD ⟨[3],[]⟩ (tabD 0 (JoI 0 (-1) 0 r2 hr3)) ?_
  obtain⟨r3,hr4,H⟩:=Jj H
  refine xD ⟨[3,1,2],[]⟩ (tabD 1 (Jlk 0 (-1) 0 r1.1 r1.2 r3 none hr4)) ?_
  replace H:=oI H
  subst H
  exact xO ⟨[],[]⟩
 have F:=Y
 refine xQp [36,37,38] ?_
 refine xs 2 ?_
 refine xp ⟨[4],[]⟩ (tabG 0 (cg5 hr2)) ?_
 refine xS ?_
 refine xpD [(103,[.pt 3 0]),(102,[.pt 3 0,.pt 1 0,.pt 2 0])] ?_
 obtain⟨r4,hr5,H⟩:=Jj H
 refine xD ⟨[3],[]⟩ (tabD 2 (Jlm 0 0 0 e1.1 e1.2.1 e1.2.2.1 r4 hr5)) ?_
 obtain⟨r5,hr6,H⟩:=Jj H
 refine xD ⟨[3,1,2],[0]⟩ (tabD 3 (JkG e1.1 e1.2.1 e1.2.2.1 ([]:List Token) 0 r5 none hr6)) ?_
 replace H:=oI H
 subst H
 exact xO ⟨[],[]⟩
end Go.Proofs.YtfkhlbhjhdpkoaaGreatDoor
