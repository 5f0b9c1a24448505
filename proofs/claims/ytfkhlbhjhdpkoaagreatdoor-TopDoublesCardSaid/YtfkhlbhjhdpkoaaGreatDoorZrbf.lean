/- Functions of data for functions of the program. Written by dec3.py. -/
import Derived.Test.YtfkhlbhjhdpkoaaGreatDoorZrbc
set_option linter.unusedVariables false
set_option linter.unusedSimpArgs false
set_option maxHeartbeats 4000000
set_option maxRecDepth 100000
namespace Go.Proofs.YtfkhlbhjhdpkoaaGreatDoor
open Go.RowKit
noncomputable def Vy(a0:List Token):YI→Option Yz
 | (x1,x2)=>if(leI 0 x1)=true then if(0:Int)≤x1∧x1.toNat<a0.length then if(x2.length + [(a0.getD x1.toNat default)].length) * 120≤140737488355328 then some (.inl (IntKind.i64.wrap (x1-1),x2++[(a0.getD x1.toNat default)])) else none else none else inrO (some x2)
noncomputable def Jap(a0 a1:List Token):Option (List Token) :=
 Jt (Vy a0) (IntKind.i64.wrap ((a0.length:Int)-1),a1)
def Jbl(a0 a1:List Token)(r:(List Token)):GI :=
 ⟨[.c (.pt 1 0),.c (.d (.sl 11 (List.map Ja a0)))],[[.os 2 11 0 a1.length],[.arr 11 (List.map Ja a1)]],[],.ret (.tu []) [[.os 3 11 0 r.length],[],[.arr 11 (List.map Ja r)]] []⟩
def Jbk:GI→Prop:=Sg2 Jap Jbl
theorem Ji9:∀ g,Jbk g→Jm Tryz.prog 121 g:=by
 rintro _ ⟨a0,a1,r,H,rfl⟩
 refine xGn mixed [] [] [] trivial trivial trivial Tryz.func121 _ ?_
 have G:=True.intro
 have Y:=xZ y_24 <| xZ y_44 <| xZ Jn7 <| xZ Tryz.results121 <| xZ Jk.eq_1 <| xZ Ja.eq_1 <| Jbl.eq_1
 dsimp only[Jbl]
 simp only[Jap]at H
 refine xS ?_
 refine xrn 2 1 ?_
 refine xr ?_
 refine JZ (Vy a0) (fun s=>[(0,.c (.pt 1 0)),(1,.c (.d (.sl 11 (List.map Ja a0)))),(4,cI s.1)]) (fun s=>[[.os 3 11 0 s.2.length],[],[.arr 11 (List.map Ja s.2)]]) [] H (xK ⟨[1,2,3],[]⟩) ?_
 rintro n1 ⟨x1,x2⟩ o1 H hF1
 rw[Vy]at H
 refine xS ?_
 refine xr ?_
 rcases xB Y G H with⟨p,H,F,G,q⟩|⟨p,H,F,G,q⟩
 ·refine xT ?_
  obtain⟨g,H⟩:=Jd H
  have F:=xZ Y (Jh Ja a0 x1.toNat default default (by omega))
  obtain⟨g,H⟩:=Jd H
  have F:=xZ F (JQ KO [(a0.getD x1.toNat default)])
  have L:[(a0.getD x1.toNat default)].length=1:=rfl
  refine xR ?_
  refine xr ?_
  exact JB (JG H hF1) (xK ⟨[1,2,4],[]⟩)
 replace H:=Js H hF1
 replace H:=oI H
 refine xE ?_
 subst H
 refine xnD [] ?_
 exact xO ⟨[1,2,3],[]⟩
theorem JjP:Jc Tryz.prog 121∧(∀ g,Jbk g→Jm Tryz.prog 121 g)∧(true=true→∀ g,Jbk g→∃ val bs ts,g.out=.ret val bs ts) :=
 ⟨JuC,Ji9,fun _=>by rintro _ ⟨_,_,_,_,rfl⟩; exact⟨_,_,_,rfl⟩⟩
noncomputable def Jgc(a0 a1:Int)(a2:List UInt8)(a3 a4:Bool)(a5 a6 a7 a8:Int)(a9:List (List UInt8))(a10:List Call)(a11:Int):Option Unit :=
 some ()
def Jc6(a0 a1:Int)(a2:List UInt8)(a3 a4:Bool)(a5 a6 a7 a8:Int)(a9:List (List UInt8))(a10:List Call)(a11:Int)(r:Unit):GI :=
 ⟨[cI a0,.c (.pt 1 0)],[[kI a1,kS a2,kB a3,kB a4,kI a5,kI a6,kI a7,kI a8,.d (.sl 1 (List.map dS a9)),.d (.sl 3 (List.map Jk a10)),kI a11]],[],.pan (.iface 170 (.agg ⟨[.int .i64 a0,.int .i64 a5,.int .i64 a6]⟩)) [[kI a1,kS a2,kB a3,kB a4,kI a5,kI a6,kI a7,kI a8,.d (.sl 1 (List.map dS a9)),.d (.sl 3 (List.map Jk a10)),kI a11]] []⟩
def JcS:GI→Prop:=Sg12 Jgc Jc6
theorem JoD:∀ g,JcS g→Jm Tryz.prog 125 g:=by
 rintro _ ⟨a0,a1,a2,a3,a4,a5,a6,a7,a8,a9,a10,a11,r,H,rfl⟩
 refine xGn mixed [] [] [] trivial trivial trivial Tryz.func125 _ ?_
 have G:=True.intro
 have Y:=xZ y_3 <| xZ y_29 <| xZ y_31 <| xZ y_44 <| xZ Jxp <| xZ Tryz.results125 <| xZ Jk.eq_1 <| xZ Ja.eq_1 <| Jc6.eq_1
 dsimp only[Jc6]
 unfold Jgc at H
 have F:=Y
 refine xQp [4,5,6,7,8,9,10,11,12,13,14,15] ?_
 refine xs 12 ?_
 refine xv ?_
 refine xS ?_
 refine xpD [] ?_
 exact xOv ⟨[1],[]⟩
theorem JjG:Jc Tryz.prog 125∧(∀ g,JcS g→Jm Tryz.prog 125 g)∧(false=true→∀ g,JcS g→∃ val bs ts,g.out=.ret val bs ts) :=
 ⟨JAG,JoD,nofun⟩
noncomputable def XA(a0:List Macro)(a1:List Source)(a2 a3 a4:Int)(a5:List UInt8)(a6 a7:Bool)(a8 a9 a10 a11:Int)(a12:List (List UInt8))(a13:List Call)(a14:Int):Option (GR Unit Int) :=
 if(eqI a2 0)=true then(Jgc 11 a4 a5 a6 a7 a8 a9 a10 a11 a12 a13 a14).bind fun e1=>some (.er ()) else some (.ok (IntKind.i64.wrap (a2-1)))
def JhN(a0:List Macro)(a1:List Source)(a2 a3 a4:Int)(a5:List UInt8)(a6 a7:Bool)(a8 a9 a10 a11:Int)(a12:List (List UInt8))(a13:List Call)(a14:Int):GR Unit Int→GOut
 | .ok r=>.ret (.tu []) [[.d (.sl 5 (List.map Je a0)),.d (.sl 2 (List.map Jf a1)),kI r,kI a3],[kI a4,kS a5,kB a6,kB a7,kI a8,kI a9,kI a10,kI a11,.d (.sl 1 (List.map dS a12)),.d (.sl 3 (List.map Jk a13)),kI a14]] []
 | .er r=>.pan (.iface 170 (.agg ⟨[.int .i64 11,.int .i64 a8,.int .i64 a9]⟩)) [[.d (.sl 5 (List.map Je a0)),.d (.sl 2 (List.map Jf a1)),kI a2,kI a3],[kI a4,kS a5,kB a6,kB a7,kI a8,kI a9,kI a10,kI a11,.d (.sl 1 (List.map dS a12)),.d (.sl 3 (List.map Jk a13)),kI a14]] []
def Zh(a0:List Macro)(a1:List Source)(a2 a3 a4:Int)(a5:List UInt8)(a6 a7:Bool)(a8 a9 a10 a11:Int)(a12:List (List UInt8))(a13:List Call)(a14:Int)(r:GR Unit Int):GI :=
 ⟨[.c (.pt 1 0),.c (.pt 2 0)],[[.d (.sl 5 (List.map Je a0)),.d (.sl 2 (List.map Jf a1)),kI a2,kI a3],[kI a4,kS a5,kB a6,kB a7,kI a8,kI a9,kI a10,kI a11,.d (.sl 1 (List.map dS a12)),.d (.sl 3 (List.map Jk a13)),kI a14]],[],JhN a0 a1 a2 a3 a4 a5 a6 a7 a8 a9 a10 a11 a12 a13 a14 r⟩
def Zn:GI→Prop:=Sg15 XA Zh
theorem Jhy:∀ g,Zn g→Jm Tryz.prog 123 g:=by
 rintro _ ⟨a0,a1,a2,a3,a4,a5,a6,a7,a8,a9,a10,a11,a12,a13,a14,r,H,rfl⟩
 refine xGn mixed [] [(125,false,JcS)] [] trivial ⟨JjG,trivial⟩ trivial Tryz.func123 _ ?_
 have G:=True.intro
 have Y:=xZ y_3 <| xZ JsG <| xZ Tryz.results123 <| xZ Jf.eq_1 <| xZ Jk.eq_1 <| xZ Ja.eq_1 <| xZ Je.eq_1 <| xZ Jc6.eq_1 <| Zh.eq_1
 dsimp only[Zh]
 simp only[XA]at H
 refine xS ?_
 refine xr ?_
 rcases xB Y G H with⟨p,H,F,G,q⟩|⟨p,H,F,G,q⟩
 ·refine xT ?_
  obtain⟨e1,hr2,H⟩:=Ji H
  have F:=Y
  refine xQp [9,10] ?_
  refine xs 1 ?_
  refine xp ⟨[2],[]⟩ (tabG 0 (cg12 hr2)) ?_
  replace H:=oI H
  refine xS ?_
  subst H
  refine xpD [] ?_
  exact xOv ⟨[1,2],[]⟩
 refine xE ?_
 replace H:=oI H
 refine xr ?_
 subst H
 refine xnD [] ?_
 exact xO ⟨[1,2],[]⟩
theorem JhR:Jc Tryz.prog 123∧(∀ g,Zn g→Jm Tryz.prog 123 g)∧(false=true→∀ g,Zn g→∃ val bs ts,g.out=.ret val bs ts) :=
 ⟨Jzf,Jhy,nofun⟩
noncomputable def Xy:(Int×(List UInt8)×(List UInt8))→Option YA
 | (x1,x2,x3)=>some (x1,x2,3,true)
noncomputable def XF:((List UInt8)×(List UInt8))→Option YA
 | (x4,x5)=>if 1+x4.length≤9223372036854775807 then if 1+x4.length+1≤9223372036854775807 then Xy (4,([34]++x4)++[34],x5) else none else none
noncomputable def XH(a0:Token)(a2:List Source):((List UInt8)×Bool×(List UInt8))→Option YA
 | (x6,x7,x8)=>if x7=true then if(0:Int)≤a0.File∧a0.File.toNat<a2.length then XF ((a2.getD a0.File.toNat default).Path,x8) else none else XF (x6,x8)
noncomputable def Xi(a0:Token)(a1:List Macro)(a2:List Source)(a3 a4:Int):Option YA :=
 if(eqS a0.Text [95,95,76,73,78,69,95,95])=true then(ZH a0.Line).bind fun r1=>Xy (2,r1,[]) else if(eqS a0.Text [95,95,70,73,76,69,95,95])=true then if(leI 0 a0.File)=true then XH a0 a2 ([],ltI a0.File (a2.length:Int),[]) else XH a0 a2 ([],false,[]) else some (a0.Kind,a0.Text,a0.Made,false)
def XU(a0:Token)(a1:List Macro)(a2:List Source)(a3 a4:Int)(r:YA):GI :=
 ⟨[.c (.pt 1 0),.ag [kI a0.Kind,kS a0.Text,kB a0.Space,kB a0.First,kI a0.File,kI a0.At,kI a0.End,kI a0.Line,.d (.sl 1 (List.map dS a0.Hide)),.d (.sl 3 (List.map Jk a0.Calls)),kI a0.Made]],[[.d (.sl 5 (List.map Je a1)),.d (.sl 2 (List.map Jf a2)),kI a3,kI a4]],[],.ret (.tu [(true,[kI r.1,kS r.2.1,kB a0.Space,kB a0.First,kI a0.File,kI a0.At,kI a0.End,kI a0.Line,.d (.sl 1 (List.map dS a0.Hide)),.d (.sl 3 (List.map Jk a0.Calls)),kI r.2.2.1]),(false,[kB r.2.2.2])]) [[.d (.sl 5 (List.map Je a1)),.d (.sl 2 (List.map Jf a2)),kI a3,kI a4]] []⟩
def XZ:GI→Prop:=Sg5 Xi XU
theorem Jhf:∀ g,XZ g→Jm Tryz.prog 124 g:=by
 rintro _ ⟨a0,a1,a2,a3,a4,r,H,rfl⟩
 refine xGn mixed [(13,Jbu)] [] [] ⟨⟨JvE,JhE⟩,trivial⟩ trivial trivial Tryz.func124 _ ?_
 have G:=True.intro
 have Y:=xZ y_3 <| xZ y_9 <| xZ y_35 <| xZ y_37 <| xZ y_44 <| xZ JsG <| xZ Tryz.results124 <| xZ Jf.eq_1 <| xZ Jk.eq_1 <| xZ Ja.eq_1 <| xZ Je.eq_1 <| XU.eq_1
 dsimp only[XU]
 simp only[Xi]at H
 refine xS ?_
 refine xr0 ?_
 refine Jl ?_
 refine Jp Xy (fun s=>[(3,.c (.pt 2 0)),(4,.c (.pt 3 0))]) (fun s=>[[.d (.sl 5 (List.map Je a1)),.d (.sl 2 (List.map Jf a2)),kI a3,kI a4],[kI s.1,kS s.2.1,kB a0.Space,kB a0.First,kI a0.File,kI a0.At,kI a0.End,kI a0.Line,.d (.sl 1 (List.map dS a0.Hide)),.d (.sl 3 (List.map Jk a0.Calls)),kI a0.Made],[kI 0,kS s.2.2,kB false,kB false,kI 0,kI 0,kI 0,kI 0,.sl 1 [] 0,.sl 3 [] 0,kI 0]]) [] r ?_ ?_
 ·refine xS ?_
  refine xr ?_
  refine xr ?_
  rcases xB Y G H with⟨p,H,F,G,q⟩|⟨p,H,F,G,q⟩
  ·refine xT ?_
   obtain⟨r1,hr1,H⟩:=Ji H
   have F:=xC Y (Jib a0.Line r1 hr1)
   refine xR ?_
   exact Jb H (xK ⟨[1,2,3],[]⟩)
  refine xE ?_
  refine xr ?_
  rcases xB Y G H with⟨p,H,F,G,q⟩|⟨p,H,F,G,q⟩
  ·refine xT ?_
   refine xr0 ?_
   refine Jl ?_
   refine Jp XF (fun s=>[(3,.c (.pt 2 0)),(4,.c (.pt 3 0)),(6,cS s.1)]) (fun s=>[[.d (.sl 5 (List.map Je a1)),.d (.sl 2 (List.map Jf a2)),kI a3,kI a4],[kI a0.Kind,kS a0.Text,kB a0.Space,kB a0.First,kI a0.File,kI a0.At,kI a0.End,kI a0.Line,.d (.sl 1 (List.map dS a0.Hide)),.d (.sl 3 (List.map Jk a0.Calls)),kI a0.Made],[kI 0,kS s.2,kB false,kB false,kI 0,kI 0,kI 0,kI 0,.sl 1 [] 0,.sl 3 [] 0,kI 0]]) [] r ?_ ?_
   ·refine Jp (XH a0 a2) (fun s=>[(0,.c (.pt 1 0)),(3,.c (.pt 2 0)),(4,.c (.pt 3 0)),(6,cS s.1),(31,cB s.2.1)]) (fun s=>[[.d (.sl 5 (List.map Je a1)),.d (.sl 2 (List.map Jf a2)),kI a3,kI a4],[kI a0.Kind,kS a0.Text,kB a0.Space,kB a0.First,kI a0.File,kI a0.At,kI a0.End,kI a0.Line,.d (.sl 1 (List.map dS a0.Hide)),.d (.sl 3 (List.map Jk a0.Calls)),kI a0.Made],[kI 0,kS s.2.2,kB false,kB false,kI 0,kI 0,kI 0,kI 0,.sl 1 [] 0,.sl 3 [] 0,kI 0]]) [] r ?_ ?_
    ·rcases xB Y G H with⟨p,H,F,G,q⟩|⟨p,H,F,G,q⟩
     ·refine xR ?_
      exact Jb H (xK ⟨[1,2,3],[]⟩)
     refine xR ?_
     exact Jb H (xK ⟨[1,2,3],[]⟩)
    rintro ⟨x6,x7,x8⟩ H
    rw[XH]at H
    rcases xB Y G H with⟨p,H,F,G,q⟩|⟨p,H,F,G,q⟩
    ·refine xT ?_
     obtain⟨g,H⟩:=Jd H
     have F:=xZ Y (Jh Jf a2 a0.File.toNat default default (by omega))
     refine xR ?_
     exact Jb H (xK ⟨[1,2,3],[]⟩)
    refine xE ?_
    exact Jb H (xK ⟨[1,2,3],[]⟩)
   rintro ⟨x4,x5⟩ H
   rw[XF]at H
   obtain⟨g,H⟩:=Jd H
   obtain⟨g,H⟩:=Jd H
   refine xr ?_
   exact Jb H (xK ⟨[1,2,3],[]⟩)
  refine xE ?_
  replace H:=oI H
  refine xr ?_
  subst H
  refine xrD [] ?_
  exact xO ⟨[1],[]⟩
 rintro ⟨x1,x2,x3⟩ H
 rw[Xy]at H
 refine xS ?_
 refine xr ?_
 replace H:=oI H
 refine xr ?_
 subst H
 refine xrD [] ?_
 exact xO ⟨[1],[]⟩
theorem Jhw:Jc Tryz.prog 124∧(∀ g,XZ g→Jm Tryz.prog 124 g)∧(true=true→∀ g,XZ g→∃ val bs ts,g.out=.ret val bs ts) :=
 ⟨JAu,Jhf,fun _=>by rintro _ ⟨_,_,_,_,_,_,_,rfl⟩; exact⟨_,_,_,rfl⟩⟩
noncomputable def K6(a0:List (List UInt8))(a1:List UInt8):(Int×Int)→Option YP
 | (x1,x2)=>if(ltI x2 x1)=true then if(0:Int)≤x2∧x2.toNat<a0.length then if(eqS a1 (a0.getD x2.toNat default))=true then inrO (some x2) else some (.inl (x1,IntKind.i64.wrap (x2+1))) else none else inrO (some (-1))
noncomputable def JP(a0:List (List UInt8))(a1:List UInt8):Option Int :=
 Jt (K6 a0 a1) ((a0.length:Int),0)
noncomputable def Kt:PF:=PF.of (E2 (dL 1 dS) dS) (fun a=>JP a.1 a.2) dI
theorem Xq:JF Tryz.prog 129 Kt:=by
 refine xF mixed [] [] trivial trivial Tryz.func129 ?_
 rintro ⟨a0,a1⟩ out H
 have G:=True.intro
 have Y:=xZ y_9 <| xZ y_41 <| Tryz.results129
 simp only[JP]at H
 refine xS ?_
 refine xr ?_
 refine xr ?_
 refine JZ (K6 a0 a1) (fun s=>[(0,.c (.d (.sl 1 (List.map dS a0)))),(1,cS a1),(7,cI s.1),(8,cI s.2)]) (fun s=>[]) [] H (xK ⟨[],[]⟩) ?_
 rintro n1 ⟨x1,x2⟩ o1 H hF1
 rw[K6]at H
 refine xS ?_
 refine xr ?_
 rcases xB Y G H with⟨p,H,F,G,q⟩|⟨p,H,F,G,q⟩
 ·refine xT ?_
  refine xr ?_
  obtain⟨g,H⟩:=Jd H
  have F:=xZ Y (Jh dS a0 x2.toNat default default (by omega))
  refine xR ?_
  rcases xB Y G H with⟨p,H,F,G,q⟩|⟨p,H,F,G,q⟩
  ·refine xT ?_
   replace H:=Js H hF1
   replace H:=oI H
   refine xr ?_
   subst H
   exact xN
  refine xE ?_
  refine xr ?_
  exact JB (JG H hF1) (xK ⟨[],[]⟩)
 replace H:=Js H hF1
 refine xE ?_
 replace H:=oI H
 refine xr ?_
 subst H
 exact xN
theorem XG(a0:List (List UInt8))(a1:List UInt8)(r:Int)(H:JP a0 a1=some r):PC Kt [(dL 1 dS) a0,dS a1] (dI r):=PF.c (a:=(a0,a1)) H
noncomputable def JU(a0:List (List UInt8))(a1:List UInt8):Option Bool :=
 (JP a0 a1).bind fun r1=>some (leI 0 r1)
noncomputable def VI:PF:=PF.of (E2 (dL 1 dS) dS) (fun a=>JU a.1 a.2) dB
theorem Jee:JF Tryz.prog 108 VI:=by
 refine xF mixed [(129,Kt)] [] ⟨⟨Jl8,Xq⟩,trivial⟩ trivial Tryz.func108 ?_
 rintro ⟨a0,a1⟩ out H
 have G:=True.intro
 have Y:=Tryz.results108
 simp only[JU]at H
 refine xS ?_
 refine xr ?_
 obtain⟨r1,hr1,H⟩:=Ji H
 have F:=xC Y (XG a0 a1 r1 hr1)
 replace H:=oI H
 refine xR ?_
 subst H
 exact xN
theorem Jek(a0:List (List UInt8))(a1:List UInt8)(r:Bool)(H:JU a0 a1=some r):PC VI [(dL 1 dS) a0,dS a1] (dB r):=PF.c (a:=(a0,a1)) H
noncomputable def Jhd(a0:Macro)(a1:List UInt8):Option Bool :=
 some (eqS a0.Name a1)
def Jd0(a0:Macro)(a1:List UInt8)(r:Bool):GI :=
 ⟨[.ag [kS a0.Name,kB a0.Call,.d (.sl 1 (List.map dS a0.Params)),kB a0.More,.d (.sl 11 (List.map Ja a0.Body))],.c (.pt 1 0)],[[kS a1]],[],.ret (cB r) [[kS a1]] []⟩
def JdY:GI→Prop:=Sg2 Jhd Jd0
theorem Joe:∀ g,JdY g→Jm Tryz.prog 110 g:=by
 rintro _ ⟨a0,a1,r,H,rfl⟩
 refine xGn mixed [] [] [] trivial trivial trivial Tryz.func110 _ ?_
 have G:=True.intro
 have Y:=xZ y_9 <| xZ y_63 <| xZ Tryz.results110 <| xZ Jk.eq_1 <| xZ Ja.eq_1 <| xZ Je.eq_1 <| Jd0.eq_1
 dsimp only[Jd0]
 simp only[Jhd]at H
 refine xS ?_
 refine xr ?_
 replace H:=oI H
 refine xr ?_
 subst H
 refine xrD [] ?_
 exact xO ⟨[1],[]⟩
theorem JoI:Jc Tryz.prog 110∧(∀ g,JdY g→Jm Tryz.prog 110 g)∧(true=true→∀ g,JdY g→∃ val bs ts,g.out=.ret val bs ts) :=
 ⟨Jzq,Joe,fun _=>by rintro _ ⟨_,_,_,_,rfl⟩; exact⟨_,_,_,rfl⟩⟩
noncomputable def KN(a0:List Macro)(a1:List UInt8):(Int×Int)→Option YP
 | (x1,x2)=>if(ltI x2 x1)=true then if(0:Int)≤x2∧x2.toNat<a0.length then(Jhd (a0.getD x2.toNat default) a1).bind fun r1=>if r1=true then inrO (some x2) else some (.inl (x1,IntKind.i64.wrap (x2+1))) else none else inrO (some (-1))
noncomputable def Va(a0:List Macro)(a1:List UInt8):Option Int :=
 Jt (KN a0 a1) ((a0.length:Int),0)
def Kf(a0:List Macro)(a1:List UInt8)(r:Int):GI :=
 ⟨[.c (.d (.sl 5 (List.map Je a0))),.c (.clo 110 [1])],[[kS a1]],[],.ret (cI r) [[kS a1]] []⟩
def Kg:GI→Prop:=Sg2 Va Kf
theorem Jcu:∀ g,Kg g→Jm Tryz.prog 109 g:=by
 rintro _ ⟨a0,a1,r,H,rfl⟩
 refine xGn mixed [] [(110,true,JdY)] [] trivial ⟨JoI,trivial⟩ trivial Tryz.func109 _ ?_
 have G:=True.intro
 have Y:=xZ y_28 <| xZ y_63 <| xZ Tryz.results109 <| xZ Jk.eq_1 <| xZ Ja.eq_1 <| xZ Je.eq_1 <| xZ Jd0.eq_1 <| Kf.eq_1
 dsimp only[Kf]
 simp only[Va]at H
 refine xS ?_
 refine xr ?_
 refine xr ?_
 refine JZ (KN a0 a1) (fun s=>[(0,.c (.d (.sl 5 (List.map Je a0)))),(1,.c (.clo 110 [1])),(7,cI s.1),(8,cI s.2)]) (fun s=>[[kS a1]]) [] H (xK ⟨[1],[]⟩) ?_
 rintro n1 ⟨x1,x2⟩ o1 H hF1
 rw[KN]at H
 refine xS ?_
 refine xr ?_
 rcases xB Y G H with⟨p,H,F,G,q⟩|⟨p,H,F,G,q⟩
 ·refine xT ?_
  refine xr ?_
  obtain⟨g,H⟩:=Jd H
  have F:=xZ Y (Jh Je a0 x2.toNat default default (by omega))
  obtain⟨r1,hr1,H⟩:=Ji H
  have F:=F
  refine xQ ?_
  refine xs 5 ?_
  refine xc ⟨[1],[]⟩ (tabG 0 (cg2 hr1)) ?_
  refine xl ?_
  refine xS ?_
  rcases xB Y G H with⟨p,H,F,G,q⟩|⟨p,H,F,G,q⟩
  ·refine xT ?_
   replace H:=Js H hF1
   replace H:=oI H
   refine xr ?_
   subst H
   refine xrD [] ?_
   exact xO ⟨[1],[]⟩
  refine xE ?_
  refine xr ?_
  exact JB (JG H hF1) (xK ⟨[1],[]⟩)
 replace H:=Js H hF1
 refine xE ?_
 replace H:=oI H
 refine xr ?_
 subst H
 refine xrD [] ?_
 exact xO ⟨[1],[]⟩
theorem JcQ:Jc Tryz.prog 109∧(∀ g,Kg g→Jm Tryz.prog 109 g)∧(true=true→∀ g,Kg g→∃ val bs ts,g.out=.ret val bs ts) :=
 ⟨JzJ,Jcu,fun _=>by rintro _ ⟨_,_,_,_,rfl⟩; exact⟨_,_,_,rfl⟩⟩
noncomputable def Vz(a0:List Macro)(a1:List UInt8):Option Int :=
 (Va a0 a1).bind fun r1=>some r1
noncomputable def JcZ:PF:=PF.of (E2 (dL 5 Je) dS) (fun a=>Vz a.1 a.2) dI
theorem JgH:JF Tryz.prog 86 JcZ:=by
 refine xF mixed [] [(109,true,Kg)] trivial ⟨JcQ,trivial⟩ Tryz.func86 ?_
 rintro ⟨a0,a1⟩ out H
 have G:=True.intro
 have Y:=xZ Tryz.results86 <| xZ Jk.eq_1 <| xZ Ja.eq_1 <| xZ Je.eq_1 <| Kf.eq_1
 simp only[Vz]at H
 refine xS ?_
 refine xr ?_
 obtain⟨r1,hr1,H⟩:=Ji H
 have F:=Y
 refine xQ ?_
 refine xs 2 ?_
 refine xc ⟨[1],[]⟩ (tabG 0 (cg2 hr1)) ?_
 refine xs 1 ?_
 refine xl ?_
 replace H:=oI H
 refine xS ?_
 subst H
 exact xN
theorem Jg3(a0:List Macro)(a1:List UInt8)(r:Int)(H:Vz a0 a1=some r):PC JcZ [(dL 5 Je) a0,dS a1] (dI r):=PF.c (a:=(a0,a1)) H
noncomputable def Jds(a0:Macro)(a1:Int)(a2:List UInt8)(a3 a4:Bool)(a5 a6 a7 a8:Int)(a9:List (List UInt8))(a10:List Call)(a11:Int):Option Int :=
 if(!eqI a1 1)=true then some (-1) else(JP a0.Params a2).bind fun r1=>some r1
def JdQ(a0:Macro)(a1:Int)(a2:List UInt8)(a3 a4:Bool)(a5 a6 a7 a8:Int)(a9:List (List UInt8))(a10:List Call)(a11 r:Int):GI :=
 ⟨[.c (.pp (List.drop 0 (Je a0).cells)),.c (.pt 1 0)],[[kI a1,kS a2,kB a3,kB a4,kI a5,kI a6,kI a7,kI a8,.d (.sl 1 (List.map dS a9)),.d (.sl 3 (List.map Jk a10)),kI a11]],[],.ret (cI r) [[kI a1,kS a2,kB a3,kB a4,kI a5,kI a6,kI a7,kI a8,.d (.sl 1 (List.map dS a9)),.d (.sl 3 (List.map Jk a10)),kI a11]] []⟩
def JdR:GI→Prop:=Sg12 Jds JdQ
theorem Jnp:∀ g,JdR g→Jm Tryz.prog 163 g:=by
 rintro _ ⟨a0,a1,a2,a3,a4,a5,a6,a7,a8,a9,a10,a11,r,H,rfl⟩
 refine xGn mixed [(129,Kt)] [] [] ⟨⟨Jl8,Xq⟩,trivial⟩ trivial trivial Tryz.func163 _ ?_
 have G:=True.intro
 have Y:=xZ y_3 <| xZ y_9 <| xZ y_41 <| xZ y_44 <| xZ y_63 <| xZ Tryz.results163 <| xZ Jk.eq_1 <| xZ Ja.eq_1 <| xZ Je.eq_1 <| JdQ.eq_1
 dsimp only[JdQ]
 simp only[Jds]at H
 refine xS ?_
 refine xr ?_
 refine xr ?_
 rcases xB Y G H with⟨p,H,F,G,q⟩|⟨p,H,F,G,q⟩
 ·refine xT ?_
  replace H:=oI H
  refine xr ?_
  subst H
  refine xrD [] ?_
  exact xO ⟨[1],[]⟩
 refine xE ?_
 obtain⟨r1,hr1,H⟩:=Ji H
 have F:=xC Y (XG a0.Params a2 r1 hr1)
 replace H:=oI H
 refine xR ?_
 subst H
 refine xrD [] ?_
 exact xO ⟨[1],[]⟩
theorem Jol:Jc Tryz.prog 163∧(∀ g,JdR g→Jm Tryz.prog 163 g)∧(true=true→∀ g,JdR g→∃ val bs ts,g.out=.ret val bs ts) :=
 ⟨JuH,Jnp,fun _=>by rintro _ ⟨_,_,_,_,_,_,_,_,_,_,_,_,_,_,rfl⟩; exact⟨_,_,_,rfl⟩⟩
noncomputable def Jft(a0:Macro)(a1:Token):Option Int :=
 if(!eqI a1.Kind 1)=true then some (-1) else(JP a0.Params a1.Text).bind fun r1=>some r1
def Jb2(a0:Macro)(a1:Token)(r:Int):GI :=
 ⟨[.c (.pp (List.drop 0 (Je a0).cells)),.c (.pp (List.drop 0 (Ja a1).cells))],[],[],.ret (cI r) [] []⟩
def Jb9:GI→Prop:=Sg2 Jft Jb2
theorem Jln:∀ g,Jb9 g→Jm Tryz.prog 163 g:=by
 rintro _ ⟨a0,a1,r,H,rfl⟩
 refine xGn mixed [(129,Kt)] [] [] ⟨⟨Jl8,Xq⟩,trivial⟩ trivial trivial Tryz.func163 _ ?_
 have G:=True.intro
 have Y:=xZ y_3 <| xZ y_9 <| xZ y_41 <| xZ y_44 <| xZ y_63 <| xZ Tryz.results163 <| xZ Jk.eq_1 <| xZ Ja.eq_1 <| xZ Je.eq_1 <| Jb2.eq_1
 dsimp only[Jb2]
 simp only[Jft]at H
 refine xS ?_
 refine xr ?_
 refine xr ?_
 rcases xB Y G H with⟨p,H,F,G,q⟩|⟨p,H,F,G,q⟩
 ·refine xT ?_
  replace H:=oI H
  refine xr ?_
  subst H
  refine xrD [] ?_
  exact xO ⟨[],[]⟩
 refine xE ?_
 obtain⟨r1,hr1,H⟩:=Ji H
 have F:=xC Y (XG a0.Params a1.Text r1 hr1)
 replace H:=oI H
 refine xR ?_
 subst H
 refine xrD [] ?_
 exact xO ⟨[],[]⟩
theorem JlX:Jc Tryz.prog 163∧(∀ g,Jb9 g→Jm Tryz.prog 163 g)∧(true=true→∀ g,Jb9 g→∃ val bs ts,g.out=.ret val bs ts) :=
 ⟨JuH,Jln,fun _=>by rintro _ ⟨_,_,_,_,rfl⟩; exact⟨_,_,_,rfl⟩⟩
noncomputable def Vp(x3:Int):(Bool×Int×(List Token))→Option Yq
 | (x5,x6,x7)=>some (.inl (x5,x6,IntKind.i64.wrap (x3+1),x7))
noncomputable def KI(a0:Macro)(a1:List (List Token))(x2 x3:Int)(x4:List Token)(x9:Int)(x10:List UInt8)(x11 x12:Bool)(x13 x14 x15 x16:Int)(x17:List (List UInt8))(x18:List Call)(x19 r1:Int):(Bool×Bool)→Option Yq
 | (x22,x23)=>if x23=true then if(0:Int)≤r1∧r1.toNat<a1.length then none else none else if(leI 0 r1)=true then if(0:Int)≤r1∧r1.toNat<a1.length then none else none else if x22=true then if(0:Int)≤0∧0≤x2∧x2≤(x4.length:Int) then if(0:Int)≤x2∧x2≤(x4.length:Int)∧(x4.length:Int)≤(x4.length:Int) then if(0:Int)≤x3∧x3.toNat<a0.Body.length then none else none else none else none else if(x4.length + [(⟨x9,x10,x11,x12,x13,x14,x15,x16,x17,x18,x19⟩:Token)].length) * 120≤140737488355328 then Vp x3 (false,((x4.length:Nat):Int),x4++[(⟨x9,x10,x11,x12,x13,x14,x15,x16,x17,x18,x19⟩:Token)]) else none
noncomputable def KJ(a0:Macro)(a1:List (List Token))(x1:Bool)(x2 x3:Int)(x4:List Token)(x8:Bool)(x9:Int)(x10:List UInt8)(x11 x12:Bool)(x13 x14 x15 x16:Int)(x17:List (List UInt8))(x18:List Call)(x19 r1:Int):Bool→Option Yq
 | x21=>if x21=true then if(0:Int)≤(IntKind.i64.wrap (x3+1))∧(IntKind.i64.wrap (x3+1)).toNat<a0.Body.length then(Jft a0 (a0.Body.getD ((IntKind.i64.wrap (x3+1)).toNat) default)).bind fun r2=>if(0:Int)≤r2∧r2.toNat<a1.length then none else none else none else if(leI 0 r1)=true then if x1=true then KI a0 a1 x2 x3 x4 x9 x10 x11 x12 x13 x14 x15 x16 x17 x18 x19 r1 (true,true) else KI a0 a1 x2 x3 x4 x9 x10 x11 x12 x13 x14 x15 x16 x17 x18 x19 r1 (false,x8) else KI a0 a1 x2 x3 x4 x9 x10 x11 x12 x13 x14 x15 x16 x17 x18 x19 r1 (x1,false)
noncomputable def Vm(a0:Macro)(a1:List (List Token))(x1:Bool)(x2 x3:Int)(x4:List Token)(x8:Bool)(x9:Int)(x10:List UInt8)(x11 x12:Bool)(x13 x14 x15 x16:Int)(x17:List (List UInt8))(x18:List Call)(x19 r1:Int):Bool→Option Yq
 | x20=>if x20=true then Vp x3 (true,x2,x4) else if(eqS x10 [35])=true then if(eqI x9 5)=true then KJ a0 a1 x1 x2 x3 x4 x8 x9 x10 x11 x12 x13 x14 x15 x16 x17 x18 x19 r1 a0.Call else KJ a0 a1 x1 x2 x3 x4 x8 x9 x10 x11 x12 x13 x14 x15 x16 x17 x18 x19 r1 false else KJ a0 a1 x1 x2 x3 x4 x8 x9 x10 x11 x12 x13 x14 x15 x16 x17 x18 x19 r1 false
noncomputable def Kr(a0:Macro)(a1:List (List Token))(x1:Bool)(x2 x3:Int)(x4:List Token):Yf→Option Yq
 | (x8,x9,x10,x11,x12,x13,x14,x15,x16,x17,x18,x19)=>(Jds a0 x9 x10 x11 x12 x13 x14 x15 x16 x17 x18 x19).bind fun r1=>if(eqS x10 [35,35])=true then Vm a0 a1 x1 x2 x3 x4 x8 x9 x10 x11 x12 x13 x14 x15 x16 x17 x18 x19 r1 (eqI x9 5) else Vm a0 a1 x1 x2 x3 x4 x8 x9 x10 x11 x12 x13 x14 x15 x16 x17 x18 x19 r1 false
noncomputable def J5(a0:Macro)(a1:List (List Token)):(Bool×Int×Int×(List Token))→Option Yq
 | (x1,x2,x3,x4)=>if(ltI x3 (a0.Body.length:Int))=true then if(0:Int)≤x3∧x3.toNat<a0.Body.length then if(ltI (IntKind.i64.wrap (x3+1)) (a0.Body.length:Int))=true then if(0:Int)≤(IntKind.i64.wrap (x3+1))∧(IntKind.i64.wrap (x3+1)).toNat<a0.Body.length then if(eqS ((a0.Body.getD ((IntKind.i64.wrap (x3+1)).toNat) default).Text) [35,35])=true then if(0:Int)≤(IntKind.i64.wrap (x3+1))∧(IntKind.i64.wrap (x3+1)).toNat<a0.Body.length then Kr a0 a1 x1 x2 x3 x4 (eqI ((a0.Body.getD ((IntKind.i64.wrap (x3+1)).toNat) default).Kind) 5,(a0.Body.getD x3.toNat default).Kind,(a0.Body.getD x3.toNat default).Text,(a0.Body.getD x3.toNat default).Space,(a0.Body.getD x3.toNat default).First,(a0.Body.getD x3.toNat default).File,(a0.Body.getD x3.toNat default).At,(a0.Body.getD x3.toNat default).End,(a0.Body.getD x3.toNat default).Line,(a0.Body.getD x3.toNat default).Hide,(a0.Body.getD x3.toNat default).Calls,(a0.Body.getD x3.toNat default).Made) else none else Kr a0 a1 x1 x2 x3 x4 (false,(a0.Body.getD x3.toNat default).Kind,(a0.Body.getD x3.toNat default).Text,(a0.Body.getD x3.toNat default).Space,(a0.Body.getD x3.toNat default).First,(a0.Body.getD x3.toNat default).File,(a0.Body.getD x3.toNat default).At,(a0.Body.getD x3.toNat default).End,(a0.Body.getD x3.toNat default).Line,(a0.Body.getD x3.toNat default).Hide,(a0.Body.getD x3.toNat default).Calls,(a0.Body.getD x3.toNat default).Made) else none else Kr a0 a1 x1 x2 x3 x4 (false,(a0.Body.getD x3.toNat default).Kind,(a0.Body.getD x3.toNat default).Text,(a0.Body.getD x3.toNat default).Space,(a0.Body.getD x3.toNat default).First,(a0.Body.getD x3.toNat default).File,(a0.Body.getD x3.toNat default).At,(a0.Body.getD x3.toNat default).End,(a0.Body.getD x3.toNat default).Line,(a0.Body.getD x3.toNat default).Hide,(a0.Body.getD x3.toNat default).Calls,(a0.Body.getD x3.toNat default).Made) else none else inrO (some x4)
noncomputable def Xl(a0:Macro)(a1:List (List Token))(a2:List Macro)(a3:List Source)(a4 a5:Int):Option (List Token) :=
 Jt (J5 a0 a1) (false,0,0,([]:List Token))
def X1(a0:Macro)(a1:List (List Token))(a2:List Macro)(a3:List Source)(a4 a5:Int)(r:(List Token)):GI :=
 ⟨[.c (.pt 1 0),.c (.pp (List.drop 0 (Je a0).cells)),.c (.d (.sl 1 (List.map (dL 11 Ja) a1)))],[[.d (.sl 5 (List.map Je a2)),.d (.sl 2 (List.map Jf a3)),kI a4,kI a5]],[],.ret (.c (.os 2 11 0 r.length)) [[.d (.sl 5 (List.map Je a2)),.d (.sl 2 (List.map Jf a3)),kI a4,kI a5],[.arr 11 (List.map Ja r)]] []⟩
def XW:GI→Prop:=Sg6 Xl X1
theorem Jg8:∀ g,XW g→Jm Tryz.prog 144 g:=by
 rintro _ ⟨a0,a1,a2,a3,a4,a5,r,H,rfl⟩
 refine xGnl mixed [16,19,21,23] [] [(163,true,JdR),(163,true,Jb9)] [] trivial ⟨Jol,JlX,trivial⟩ trivial Tryz.func144 _ ?_
 have G:=True.intro
 have Y:=xZ y_3 <| xZ y_4 <| xZ y_9 <| xZ y_24 <| xZ y_44 <| xZ y_63 <| xZ y_81 <| xZ Tryz.results144 <| xZ Jf.eq_1 <| xZ Jk.eq_1 <| xZ Ja.eq_1 <| xZ Je.eq_1 <| xZ JdQ.eq_1 <| xZ Jb2.eq_1 <| X1.eq_1
 dsimp only[X1]
 simp only[Xl]at H
 refine xS ?_
 refine xr ?_
 refine xr ?_
 refine xr ?_
 refine xr ?_
 refine xr ?_
 refine JZ (J5 a0 a1) (fun s=>[(0,.c (.pt 1 0)),(1,.c (.pp (List.drop 0 (Je a0).cells))),(2,.c (.d (.sl 1 (List.map (dL 11 Ja) a1)))),(7,.c (.os 2 11 0 s.2.2.2.length)),(8,cB s.1),(9,cI s.2.1),(10,cI s.2.2.1)]) (fun s=>[[.d (.sl 5 (List.map Je a2)),.d (.sl 2 (List.map Jf a3)),kI a4,kI a5],[.arr 11 (List.map Ja s.2.2.2)]]) [] H (xK ⟨[1,0],[]⟩) ?_
 rintro n1 ⟨x1,x2,x3,x4⟩ o1 H hF1
 rw[J5]at H
 refine xS ?_
 refine xr ?_
 rcases xB Y G H with⟨p,H,F,G,q⟩|⟨p,H,F,G,q⟩
 ·refine xT0 ?_
  refine Jbd ?_
  refine Jl ?_
  refine Jp (Vp x3) (fun s=>[(0,.c (.pt 1 0)),(1,.c (.pp (List.drop 0 (Je a0).cells))),(2,.c (.d (.sl 1 (List.map (dL 11 Ja) a1)))),(7,.c (.os 2 11 0 s.2.2.length)),(8,cB s.1),(9,cI s.2.1),(10,cI x3)]) (fun s=>[[.d (.sl 5 (List.map Je a2)),.d (.sl 2 (List.map Jf a3)),kI a4,kI a5],[.arr 11 (List.map Ja s.2.2)]]) [] o1 ?_ ?_
  ·refine xS ?_
   obtain⟨g,H⟩:=Jd H
   have F:=xZ Y (Jh Ja a0.Body x3.toNat default default (by omega))
   refine xR0 ?_
   refine Jl ?_
   refine Jp (Kr a0 a1 x1 x2 x3 x4) (fun s=>[(0,.c (.pt 1 0)),(1,.c (.pp (List.drop 0 (Je a0).cells))),(2,.c (.d (.sl 1 (List.map (dL 11 Ja) a1)))),(7,.c (.os 2 11 0 x4.length)),(8,cB x1),(9,cI x2),(10,cI x3),(11,.c (.pt 3 0)),(12,cB s.1)]) (fun s=>[[.d (.sl 5 (List.map Je a2)),.d (.sl 2 (List.map Jf a3)),kI a4,kI a5],[.arr 11 (List.map Ja x4)],[kI s.2.1,kS s.2.2.1,kB s.2.2.2.1,kB s.2.2.2.2.1,kI s.2.2.2.2.2.1,kI s.2.2.2.2.2.2.1,kI s.2.2.2.2.2.2.2.1,kI s.2.2.2.2.2.2.2.2.1,.d (.sl 1 (List.map dS s.2.2.2.2.2.2.2.2.2.1)),.d (.sl 3 (List.map Jk s.2.2.2.2.2.2.2.2.2.2.1)),kI s.2.2.2.2.2.2.2.2.2.2.2]]) [] o1 ?_ ?_
   ·rcases xB Y G H with⟨p,H,F,G,q⟩|⟨p,H,F,G,q⟩
    ·obtain⟨g,H⟩:=Jd H
     have F:=xZ F (Jh Ja a0.Body ((IntKind.i64.wrap (x3+1)).toNat) default default (by omega))
     rcases xB F G H with⟨p,H,F,G,q⟩|⟨p,H,F,G,q⟩
     ·obtain⟨g,H⟩:=Jd H
      have F:=xZ F (Jh Ja a0.Body ((IntKind.i64.wrap (x3+1)).toNat) default default (by omega))
      refine xR ?_
      exact Jb H (xK ⟨[1,2,3],[]⟩)
     refine xR ?_
     exact Jb H (xK ⟨[1,2,3],[]⟩)
    refine xR ?_
    exact Jb H (xK ⟨[1,2,3],[]⟩)
   rintro ⟨x8,x9,x10,x11,x12,x13,x14,x15,x16,x17,x18,x19⟩ H
   rw[Kr]at H
   refine xS ?_
   refine xr ?_
   obtain⟨r1,hr1,H⟩:=Ji H
   have F:=Y
   refine xQ ?_
   refine xs 1 ?_
   refine xc ⟨[3],[]⟩ (tabG 0 (cg12 hr1)) ?_
   refine xs 1 ?_
   refine xl ?_
   refine  ?_
   refine Jl ?_
   refine JaS ?_
   refine Jp (Vm a0 a1 x1 x2 x3 x4 x8 x9 x10 x11 x12 x13 x14 x15 x16 x17 x18 x19 r1) (fun s=>[(0,.c (.pt 1 0)),(1,.c (.pp (List.drop 0 (Je a0).cells))),(2,.c (.d (.sl 1 (List.map (dL 11 Ja) a1)))),(7,.c (.os 2 11 0 x4.length)),(8,cB x1),(9,cI x2),(10,cI x3),(11,.c (.pt 3 0)),(12,cB x8),(14,cI r1),(67,cB s)]) (fun s=>[[.d (.sl 5 (List.map Je a2)),.d (.sl 2 (List.map Jf a3)),kI a4,kI a5],[.arr 11 (List.map Ja x4)],[kI x9,kS x10,kB x11,kB x12,kI x13,kI x14,kI x15,kI x16,.d (.sl 1 (List.map dS x17)),.d (.sl 3 (List.map Jk x18)),kI x19]]) [] o1 ?_ ?_
   ·rcases xB Y G H with⟨p,H,F,G,q⟩|⟨p,H,F,G,q⟩
    ·refine xR ?_
     exact Jb H (xK ⟨[1,2,3],[]⟩)
    refine xR ?_
    exact Jb H (xK ⟨[1,2,3],[]⟩)
   rintro x20 H
   rw[Vm]at H
   rcases xB Y G H with⟨p,H,F,G,q⟩|⟨p,H,F,G,q⟩
   ·refine xT ?_
    refine xr ?_
    exact Jb H (xK ⟨[1,2],[]⟩)
   refine xE0 ?_
   refine Jp (KJ a0 a1 x1 x2 x3 x4 x8 x9 x10 x11 x12 x13 x14 x15 x16 x17 x18 x19 r1) (fun s=>[(0,.c (.pt 1 0)),(1,.c (.pp (List.drop 0 (Je a0).cells))),(2,.c (.d (.sl 1 (List.map (dL 11 Ja) a1)))),(7,.c (.os 2 11 0 x4.length)),(8,cB x1),(9,cI x2),(10,cI x3),(11,.c (.pt 3 0)),(12,cB x8),(14,cI r1),(76,cB s)]) (fun s=>[[.d (.sl 5 (List.map Je a2)),.d (.sl 2 (List.map Jf a3)),kI a4,kI a5],[.arr 11 (List.map Ja x4)],[kI x9,kS x10,kB x11,kB x12,kI x13,kI x14,kI x15,kI x16,.d (.sl 1 (List.map dS x17)),.d (.sl 3 (List.map Jk x18)),kI x19]]) [] o1 ?_ ?_
   ·rcases xB Y G H with⟨p,H,F,G,q⟩|⟨p,H,F,G,q⟩
    ·rcases xB F G H with⟨p,H,F,G,q⟩|⟨p,H,F,G,q⟩
     ·refine xR ?_
      exact Jb H (xK ⟨[1,2,3],[]⟩)
     refine xR ?_
     exact Jb H (xK ⟨[1,2,3],[]⟩)
    refine xR ?_
    exact Jb H (xK ⟨[1,2,3],[]⟩)
   rintro x21 H
   rw[KJ]at H
   rcases xB Y G H with⟨p,H,F,G,q⟩|⟨p,H,F,G,q⟩
   ·refine xT ?_
    refine xr ?_
    obtain⟨g,H⟩:=Jd H
    have F:=xZ Y (Jh Ja a0.Body ((IntKind.i64.wrap (x3+1)).toNat) default default (by omega))
    obtain⟨r2,hr2,H⟩:=Ji H
    have F:=F
    obtain⟨g,H⟩:=Jd H
    have F:=xZ F (Jh (dL 11 Ja) a1 r2.toNat default default (by omega))
    cases H
   refine xE0 ?_
   refine Jp (KI a0 a1 x2 x3 x4 x9 x10 x11 x12 x13 x14 x15 x16 x17 x18 x19 r1) (fun s=>[(0,.c (.pt 1 0)),(1,.c (.pp (List.drop 0 (Je a0).cells))),(2,.c (.d (.sl 1 (List.map (dL 11 Ja) a1)))),(7,.c (.os 2 11 0 x4.length)),(8,cB s.1),(9,cI x2),(10,cI x3),(11,.c (.pt 3 0)),(14,cI r1),(139,cB s.2)]) (fun s=>[[.d (.sl 5 (List.map Je a2)),.d (.sl 2 (List.map Jf a3)),kI a4,kI a5],[.arr 11 (List.map Ja x4)],[kI x9,kS x10,kB x11,kB x12,kI x13,kI x14,kI x15,kI x16,.d (.sl 1 (List.map dS x17)),.d (.sl 3 (List.map Jk x18)),kI x19]]) [] o1 ?_ ?_
   ·rcases xB Y G H with⟨p,H,F,G,q⟩|⟨p,H,F,G,q⟩
    ·rcases xB F G H with⟨p,H,F,G,q⟩|⟨p,H,F,G,q⟩
     ·refine xR ?_
      exact Jb H (xK ⟨[1,2,3],[]⟩)
     refine xR ?_
     exact Jb H (xK ⟨[1,2,3],[]⟩)
    refine xR ?_
    exact Jb H (xK ⟨[1,2,3],[]⟩)
   rintro ⟨x22,x23⟩ H
   rw[KI]at H
   rcases xB Y G H with⟨p,H,F,G,q⟩|⟨p,H,F,G,q⟩
   ·refine xT ?_
    obtain⟨g,H⟩:=Jd H
    have F:=xZ Y (Jh (dL 11 Ja) a1 r1.toNat default default (by omega))
    cases H
   refine xE ?_
   refine xr ?_
   rcases xB Y G H with⟨p,H,F,G,q⟩|⟨p,H,F,G,q⟩
   ·refine xT ?_
    obtain⟨g,H⟩:=Jd H
    have F:=xZ Y (Jh (dL 11 Ja) a1 r1.toNat default default (by omega))
    cases H
   refine xE ?_
   refine xr ?_
   refine xr ?_
   rcases xB Y G H with⟨p,H,F,G,q⟩|⟨p,H,F,G,q⟩
   ·refine xT ?_
    refine xfz 2 11 (List.map Ja x4) [] ?_
    obtain⟨g,H⟩:=Jd H
    obtain⟨g,H⟩:=Jd H
    obtain⟨g,H⟩:=Jd H
    have F:=xZ Y (Jh Ja a0.Body x3.toNat default default (by omega))
    cases H
   refine xE ?_
   refine xr ?_
   obtain⟨g,H⟩:=Jd H
   have F:=xZ Y (JQ KO [(⟨x9,x10,x11,x12,x13,x14,x15,x16,x17,x18,x19⟩:Token)])
   have L:[(⟨x9,x10,x11,x12,x13,x14,x15,x16,x17,x18,x19⟩:Token)].length=1:=rfl
   refine xR ?_
   refine xr ?_
   exact Jb H (xK ⟨[1,4],[]⟩)
  rintro ⟨x5,x6,x7⟩ H
  rw[Vp]at H
  refine xr ?_
  exact JB (JG H hF1) (xK ⟨[1,2],[]⟩)
 replace H:=Js H hF1
 refine xE ?_
 replace H:=oI H
 refine xr ?_
 subst H
 refine xrD [] ?_
 exact xO ⟨[1,2],[]⟩
theorem Jbo:Jc Tryz.prog 144∧(∀ g,XW g→Jm Tryz.prog 144 g)∧(true=true→∀ g,XW g→∃ val bs ts,g.out=.ret val bs ts) :=
 ⟨Jzc,Jg8,fun _=>by rintro _ ⟨_,_,_,_,_,_,_,_,rfl⟩; exact⟨_,_,_,rfl⟩⟩
noncomputable def JE(a0:List YO):YB→Option (YB ⊕ YO)
 | (x4,x5,x6)=>if(ltI x5 x4)=true then if(0:Int)≤x5∧x5.toNat<a0.length then if(x6.length+(a0.getD x5.toNat default).length) * 16≤140737488355328 then some (.inl (x4,IntKind.i64.wrap (x5+1),x6++(a0.getD x5.toNat default))) else none else none else inrO (some x6)
noncomputable def JC(a0:List YO):YS→Option (YS ⊕ YO)
 | (x1,x2,x3)=>if(ltI x3 x2)=true then if(0:Int)≤x3∧x3.toNat<a0.length then if(ltI (IntKind.i64.wrap (x1+((a0.getD x3.toNat default).length:Int))) 0)=true then none else some (.inl (IntKind.i64.wrap (x1+((a0.getD x3.toNat default).length:Int)),x2,IntKind.i64.wrap (x3+1))) else none else inrO ((VK x1).bind fun r1=>Jt (JE a0) ((a0.length:Int),0,([]:List (List UInt8))))
noncomputable def KE(a0:List YO):Option YO :=
 Jt (JC a0) (0,(a0.length:Int),0)
def K8(a0:List YO)(r:YO):GI :=
 ⟨[.c (.d (.sl 1 (List.map (dL 1 dS) a0)))],[],[],.ret (.c (.os 1 1 0 r.length)) [[.arr 1 (List.map dS r)]] []⟩
def K4:GI→Prop:=Sg1 KE K8
theorem JeR:∀ g,K4 g→Jm Tryz.prog 159 g:=by
 rintro _ ⟨a0,r,H,rfl⟩
 refine xGn mixed [] [(174,true,Vi)] [] trivial ⟨JfO,trivial⟩ trivial Tryz.func159 _ ?_
 have G:=True.intro
 have Y:=xZ y_9 <| xZ y_41 <| xZ JAY <| xZ Tryz.results159 <| xZ XP.eq_1 <| K8.eq_1
 dsimp only[K8]
 simp only[KE]at H
 refine xS ?_
 refine xr ?_
 refine xr ?_
 refine xr ?_
 refine JZ (JC a0) (fun s=>[(0,.c (.d (.sl 1 (List.map (dL 1 dS) a0)))),(3,cI s.1),(9,.c (.d (.sl 1 (List.map (dL 1 dS) a0)))),(10,cI s.2.1),(11,cI s.2.2)]) (fun s=>[]) [] H (xK ⟨[],[]⟩) ?_
 rintro n1 ⟨x1,x2,x3⟩ o1 H hF1
 rw[JC]at H
 refine xS ?_
 refine xr ?_
 rcases xB Y G H with⟨p,H,F,G,q⟩|⟨p,H,F,G,q⟩
 ·refine xT ?_
  obtain⟨g,H⟩:=Jd H
  have F:=xZ Y (Jh (dL 1 dS) a0 x3.toNat default default (by omega))
  refine xR ?_
  refine xr ?_
  refine xr ?_
  rcases xB Y G H with⟨p,H,F,G,q⟩|⟨p,H,F,G,q⟩
  ·refine xT ?_
   cases H
  refine xE ?_
  refine xr ?_
  exact JB (JG H hF1) (xK ⟨[],[]⟩)
 replace H:=Js H hF1
 refine xE ?_
 obtain⟨r1,hr1,H⟩:=Ji H
 have F:=Y
 refine xQ ?_
 refine xs 1 ?_
 refine xc ⟨[],[]⟩ (tabG 0 (cg1 hr1)) ?_
 refine xs 1 ?_
 refine xl ?_
 refine xS ?_
 refine xr ?_
 refine JZ (JE a0) (fun s=>[(6,.c (.os 1 1 0 s.2.2.length)),(25,.c (.d (.sl 1 (List.map (dL 1 dS) a0)))),(26,cI s.1),(27,cI s.2.1)]) (fun s=>[[.arr 1 (List.map dS s.2.2)]]) [] H (xK ⟨[1],[]⟩) ?_
 rintro n2 ⟨x4,x5,x6⟩ o2 H hF2
 rw[JE]at H
 refine xS ?_
 refine xr ?_
 rcases xB Y G H with⟨p,H,F,G,q⟩|⟨p,H,F,G,q⟩
 ·refine xT ?_
  obtain⟨g,H⟩:=Jd H
  have F:=xZ Y (Jh (dL 1 dS) a0 x5.toNat default default (by omega))
  refine xR ?_
  obtain⟨g,H⟩:=Jd H
  have F:=xZ Y (JQ Jif (a0.getD x5.toNat default))
  have A:=JQ Jif (a0.getD x5.toNat default)
  refine xR ?_
  refine xr ?_
  exact JB (JG H hF2) (xK ⟨[2],[]⟩)
 replace H:=Js H hF2
 refine xE ?_
 replace H:=oI H
 refine xr ?_
 subst H
 refine xrD [] ?_
 exact xO ⟨[1],[]⟩
theorem Je6:Jc Tryz.prog 159∧(∀ g,K4 g→Jm Tryz.prog 159 g)∧(true=true→∀ g,K4 g→∃ val bs ts,g.out=.ret val bs ts) :=
 ⟨Jzu,JeR,fun _=>by rintro _ ⟨_,_,_,rfl⟩; exact⟨_,_,_,rfl⟩⟩
noncomputable def JA(a0:List (List Call)):((List Call)×Int×Int)→Option (((List Call)×Int×Int) ⊕ (List Call))
 | (x4,x5,x6)=>if(ltI x6 x5)=true then if(0:Int)≤x6∧x6.toNat<a0.length then if(x4.length+(a0.getD x6.toNat default).length) * 32≤140737488355328 then some (.inl (x4++(a0.getD x6.toNat default),x5,IntKind.i64.wrap (x6+1))) else none else none else inrO (some x4)
noncomputable def Jz(a0:List (List Call)):YS→Option (YS ⊕ (List Call))
 | (x1,x2,x3)=>if(ltI x3 x2)=true then if(0:Int)≤x3∧x3.toNat<a0.length then if(ltI (IntKind.i64.wrap (x1+((a0.getD x3.toNat default).length:Int))) 0)=true then none else some (.inl (IntKind.i64.wrap (x1+((a0.getD x3.toNat default).length:Int)),x2,IntKind.i64.wrap (x3+1))) else none else inrO ((K5 x1).bind fun r1=>Jt (JA a0) (([]:List Call),(a0.length:Int),0))
noncomputable def Kk(a0:List (List Call)):Option (List Call) :=
 Jt (Jz a0) (0,(a0.length:Int),0)
def KC(a0:List (List Call))(r:(List Call)):GI :=
 ⟨[.c (.d (.sl 1 (List.map (dL 3 Jk) a0)))],[],[],.ret (.c (.sl 3 (List.map Jk r) 1)) [] [198]⟩
def KD:GI→Prop:=Sg1 Kk KC
theorem Jdq:∀ g,KD g→Jm Tryz.prog 162 g:=by
 rintro _ ⟨a0,r,H,rfl⟩
 refine xGn mixed [] [(177,true,KM)] [] trivial ⟨Jep,trivial⟩ trivial Tryz.func162 _ ?_
 have G:=True.intro
 have Y:=xZ y_9 <| xZ y_42 <| xZ JmW <| xZ JAU <| xZ Tryz.results162 <| xZ Jk.eq_1 <| xZ VU.eq_1 <| KC.eq_1
 dsimp only[KC]
 simp only[Kk]at H
 refine xS ?_
 refine xr ?_
 refine xr ?_
 refine xr ?_
 refine JZ (Jz a0) (fun s=>[(0,.c (.d (.sl 1 (List.map (dL 3 Jk) a0)))),(3,cI s.1),(9,.c (.d (.sl 1 (List.map (dL 3 Jk) a0)))),(10,cI s.2.1),(11,cI s.2.2)]) (fun s=>[]) [] H (xK ⟨[],[]⟩) ?_
 rintro n1 ⟨x1,x2,x3⟩ o1 H hF1
 rw[Jz]at H
 refine xS ?_
 refine xr ?_
 rcases xB Y G H with⟨p,H,F,G,q⟩|⟨p,H,F,G,q⟩
 ·refine xT ?_
  obtain⟨g,H⟩:=Jd H
  have F:=xZ Y (Jh (dL 3 Jk) a0 x3.toNat default default (by omega))
  refine xR ?_
  refine xr ?_
  refine xr ?_
  rcases xB Y G H with⟨p,H,F,G,q⟩|⟨p,H,F,G,q⟩
  ·refine xT ?_
   cases H
  refine xE ?_
  refine xr ?_
  exact JB (JG H hF1) (xK ⟨[],[]⟩)
 replace H:=Js H hF1
 refine xE ?_
 obtain⟨r1,hr1,H⟩:=Ji H
 have F:=Y
 refine xQ ?_
 refine xs 1 ?_
 refine xc ⟨[],[]⟩ (tabG 0 (cg1 hr1)) ?_
 refine xs 1 ?_
 refine xl ?_
 refine xS ?_
 refine xr ?_
 refine JZ (JA a0) (fun s=>[(6,.c (.sl 3 (List.map Jk s.1) 1)),(25,.c (.d (.sl 1 (List.map (dL 3 Jk) a0)))),(26,cI s.2.1),(27,cI s.2.2)]) (fun s=>[]) [198] H (xK ⟨[],[1]⟩) ?_
 rintro n2 ⟨x4,x5,x6⟩ o2 H hF2
 rw[JA]at H
 refine xS ?_
 refine xr ?_
 rcases xB Y G H with⟨p,H,F,G,q⟩|⟨p,H,F,G,q⟩
 ·refine xT ?_
  obtain⟨g,H⟩:=Jd H
  have F:=xZ Y (Jh (dL 3 Jk) a0 x6.toNat default default (by omega))
  refine xR ?_
  obtain⟨g,H⟩:=Jd H
  have F:=xZ Y (JQ Ji5 (a0.getD x6.toNat default))
  have A:=JQ Ji5 (a0.getD x6.toNat default)
  refine xR ?_
  refine xr ?_
  exact JB (JG H hF2) (xK ⟨[],[2]⟩)
 replace H:=Js H hF2
 refine xE ?_
 replace H:=oI H
 refine xr ?_
 subst H
 refine xrD [] ?_
 exact xO ⟨[],[1]⟩
theorem JdL:Jc Tryz.prog 162∧(∀ g,KD g→Jm Tryz.prog 162 g)∧(true=true→∀ g,KD g→∃ val bs ts,g.out=.ret val bs ts) :=
 ⟨Jzh,Jdq,fun _=>by rintro _ ⟨_,_,_,rfl⟩; exact⟨_,_,_,rfl⟩⟩
noncomputable def VA(a0:List (List UInt8))(a1:List Call):(Int×Int×(List Token))→Option ((Int×Int×(List Token)) ⊕ (List Token))
 | (x1,x2,x3)=>if(ltI x2 x1)=true then if(0:Int)≤x2∧x2.toNat<x3.length then if x2.toNat<x3.length then(KE [(x3.getD x2.toNat default).Hide,a0]).bind fun r1=>(KS r1).bind fun r2=>(Kz (Jb5 r1)).bind fun r3=>if(0:Int)≤x2∧x2.toNat<x3.length then if x2.toNat<x3.length then if(0:Int)≤x2∧x2.toNat<x3.length then if x2.toNat<x3.length then(Kk [a1,(x3.getD x2.toNat default).Calls]).bind fun r4=>if(0:Int)≤x2∧x2.toNat<x3.length then if x2.toNat<x3.length then some (.inl (x1,IntKind.i64.wrap (x2+1),List.set x3 x2.toNat (⟨(x3.getD x2.toNat default).Kind,(x3.getD x2.toNat default).Text,(x3.getD x2.toNat default).Space,(x3.getD x2.toNat default).First,(x3.getD x2.toNat default).File,(x3.getD x2.toNat default).At,(x3.getD x2.toNat default).End,(x3.getD x2.toNat default).Line,JT (Jb5 r1),r4,(x3.getD x2.toNat default).Made⟩:Token))) else none else none else none else none else none else none else none else none else inrO (some x3)
noncomputable def Jes(a0:List (List UInt8))(a1:List Call)(a2:List Token):Option (List Token) :=
 Jt (VA a0 a1) (((a2.length:Nat):Int),0,a2)
def JeJ(a0:List (List UInt8))(a1:List Call)(a2:List Token)(r:(List Token)):GI :=
 ⟨[.c (.os 1 11 0 a2.length),.c (.d (.sl 1 (List.map dS a0))),.c (.d (.sl 3 (List.map Jk a1)))],[[.arr 11 (List.map Ja a2)]],[],.ret (.c (.os 1 11 0 r.length)) [[.arr 11 (List.map Ja r)]] []⟩
def JeH:GI→Prop:=Sg3 Jes JeJ
theorem JoK:∀ g,JeH g→Jm Tryz.prog 143 g:=by
 rintro _ ⟨a0,a1,a2,r,H,rfl⟩
 refine xGn mixed [] [(159,true,K4),(160,true,Vj),(161,true,KX),(162,true,KD)] [] trivial ⟨Je6,JfN,JeV,JdL,trivial⟩ trivial Tryz.func143 _ ?_
 have G:=True.intro
 have Y:=xZ y_24 <| xZ y_41 <| xZ y_42 <| xZ y_44 <| xZ JAY <| xZ JAU <| xZ Tryz.results143 <| xZ Jk.eq_1 <| xZ Ja.eq_1 <| xZ K8.eq_1 <| xZ XQ.eq_1 <| xZ V0.eq_1 <| xZ KC.eq_1 <| JeJ.eq_1
 dsimp only[JeJ]
 simp only[Jes]at H
 refine xS ?_
 refine xr ?_
 refine xr ?_
 refine JZ (VA a0 a1) (fun s=>[(0,.c (.os 1 11 0 s.2.2.length)),(1,.c (.d (.sl 1 (List.map dS a0)))),(2,.c (.d (.sl 3 (List.map Jk a1)))),(10,cI s.1),(11,cI s.2.1)]) (fun s=>[[.arr 11 (List.map Ja s.2.2)]]) [] H (xK ⟨[1],[]⟩) ?_
 rintro n1 ⟨x1,x2,x3⟩ o1 H hF1
 rw[VA]at H
 refine xS ?_
 refine xr ?_
 rcases xB Y G H with⟨p,H,F,G,q⟩|⟨p,H,F,G,q⟩
 ·refine xT ?_
  refine xr ?_
  obtain⟨g,H⟩:=Jd H
  obtain⟨g,H⟩:=Jd H
  have F:=xZ Y (Jh Ja x3 x2.toNat default default (by omega))
  obtain⟨r1,hr1,H⟩:=Ji H
  have F:=F
  refine xQ ?_
  refine xs 7 ?_
  refine xc ⟨[],[]⟩ (tabG 0 (cg1 hr1)) ?_
  refine xs 1 ?_
  refine xl ?_
  refine xS ?_
  obtain⟨r2,hr2,H⟩:=Ji H
  have F:=Y
  refine xQ ?_
  refine xs 1 ?_
  refine xc ⟨[2],[]⟩ (tabG 1 (cg1 hr2)) ?_
  refine xl ?_
  refine xS ?_
  obtain⟨r3,hr3,H⟩:=Ji H
  have F:=xZ Y Jgv
  obtain⟨g,H⟩:=Jd H
  obtain⟨g,H⟩:=Jd H
  have F:=xZ F (Jh Ja x3 x2.toNat default default (by omega))
  have F:=xZ F (JdT Ja x3 x2.toNat)
  have F:=xZ F (Jd1 Ja x3 (show x2.toNat<x3.length by omega))
  have F:=xZ F (Jd7 Ja x3 x2.toNat)
  refine xQ ?_
  refine xs 3 ?_
  refine xc ⟨[2],[]⟩ (tabG 2 (cg1 hr3)) ?_
  refine xs 3 ?_
  refine xl ?_
  refine xS ?_
  obtain⟨g,H⟩:=Jd H
  obtain⟨g,H⟩:=Jd H
  have F:=xZ Y (Jh Ja x3 x2.toNat default default (by omega))
  have F:=xZ F (JdT Ja x3 x2.toNat)
  have F:=xZ F (Jd1 Ja x3 (show x2.toNat<x3.length by omega))
  have F:=xZ F (Jd7 Ja x3 x2.toNat)
  obtain⟨r4,hr4,H⟩:=Ji H
  have F:=F
  obtain⟨g,H⟩:=Jd H
  obtain⟨g,H⟩:=Jd H
  have F:=xZ F (Jh Ja x3 x2.toNat default default (by omega))
  have F:=xZ F (JdT Ja x3 x2.toNat)
  have F:=xZ F (Jd1 Ja x3 (show x2.toNat<x3.length by omega))
  have F:=xZ F (Jd7 Ja x3 x2.toNat)
  refine xQ ?_
  refine xs 9 ?_
  refine xc ⟨[],[]⟩ (tabG 3 (cg1 hr4)) ?_
  refine xs 3 ?_
  refine xl ?_
  refine xS ?_
  refine xr ?_
  exact JB (JG H hF1) (xK ⟨[1],[]⟩)
 replace H:=Js H hF1
 refine xE ?_
 replace H:=oI H
 refine xr ?_
 subst H
 refine xrD [] ?_
 exact xO ⟨[1],[]⟩
theorem JgC:Jc Tryz.prog 143∧(∀ g,JeH g→Jm Tryz.prog 143 g)∧(true=true→∀ g,JeH g→∃ val bs ts,g.out=.ret val bs ts) :=
 ⟨Jz1,JoK,fun _=>by rintro _ ⟨_,_,_,_,_,rfl⟩; exact⟨_,_,_,rfl⟩⟩
noncomputable def JcD:(List Token)→Option (List Token)
 | x1=>some x1
noncomputable def Jgx(a0:Bool)(a1:List Token):Option (List Token) :=
 if(ltI 0 ((a1.length:Nat):Int))=true then if 0<a1.length then if 0<a1.length then JcD (List.set a1 0 (⟨(a1.getD 0 default).Kind,(a1.getD 0 default).Text,a0,(a1.getD 0 default).First,(a1.getD 0 default).File,(a1.getD 0 default).At,(a1.getD 0 default).End,(a1.getD 0 default).Line,(a1.getD 0 default).Hide,(a1.getD 0 default).Calls,(a1.getD 0 default).Made⟩:Token)) else none else none else JcD a1
def Jdj(a0:Bool)(a1:List Token)(r:(List Token)):GI :=
 ⟨[.c (.os 1 11 0 a1.length),cB a0],[[.arr 11 (List.map Ja a1)]],[],.ret (.c (.os 1 11 0 r.length)) [[.arr 11 (List.map Ja r)]] []⟩
def Jdo:GI→Prop:=Sg2 Jgx Jdj
theorem Jmm:∀ g,Jdo g→Jm Tryz.prog 146 g:=by
 rintro _ ⟨a0,a1,r,H,rfl⟩
 refine xGn mixed [] [] [] trivial trivial trivial Tryz.func146 _ ?_
 have G:=True.intro
 have Y:=xZ y_4 <| xZ y_24 <| xZ y_44 <| xZ Tryz.results146 <| xZ Jk.eq_1 <| xZ Ja.eq_1 <| Jdj.eq_1
 dsimp only[Jdj]
 simp only[Jgx]at H
 refine xS ?_
 refine xr0 ?_
 refine Jl ?_
 refine Jp JcD (fun s=>[(0,.c (.os 1 11 0 s.length))]) (fun s=>[[.arr 11 (List.map Ja s)]]) [] r ?_ ?_
 ·refine xS ?_
  refine xr ?_
  rcases xB Y G H with⟨p,H,F,G,q⟩|⟨p,H,F,G,q⟩
  ·refine xT ?_
   obtain⟨g,H⟩:=Jd H
   obtain⟨g,H⟩:=Jd H
   have F:=xZ Y (Jh Ja a1 0 default default (by omega))
   have F:=xZ F (JdT Ja a1 0)
   have F:=xZ F (Jd1 Ja a1 (show 0<a1.length by omega))
   have F:=xZ F (Jd7 Ja a1 0)
   refine xR ?_
   exact Jb H (xK ⟨[1],[]⟩)
  refine xE ?_
  exact Jb H (xK ⟨[1],[]⟩)
 rintro x1 H
 rw[JcD]at H
 refine xS ?_
 replace H:=oI H
 refine xr ?_
 subst H
 refine xrD [] ?_
 exact xO ⟨[1],[]⟩
theorem Je8:Jc Tryz.prog 146∧(∀ g,Jdo g→Jm Tryz.prog 146 g)∧(true=true→∀ g,Jdo g→∃ val bs ts,g.out=.ret val bs ts) :=
 ⟨JzP,Jmm,fun _=>by rintro _ ⟨_,_,_,_,rfl⟩; exact⟨_,_,_,rfl⟩⟩
noncomputable def KU(a0:Macro)(a1:Token)(a2:List Macro)(a3:List Source)(a4 a5:Int):(YO×Nat×Int×Int)→Option YK
 | (x1,x2,x3,x4)=>(Xl a0 ([]:List (List Token)) a2 a3 a4 a5).bind fun r2=>(KZ a1.Calls).bind fun r3=>if(a1.Calls.length + [(⟨a0.Name,x3,x4⟩:Call)].length) * 32≤140737488355328 then(Jes x1 (a1.Calls++[(⟨a0.Name,x3,x4⟩:Call)]) r2).bind fun r4=>(Jgx a1.Space r4).bind fun r5=>some (x2,r5) else none
noncomputable def VD(a0:Macro)(a1:Token)(a2:List Macro)(a3:List Source)(a4 a5:Int)(a6:Nat)(a7:List Token):Option YK :=
 (VE a1.Hide).bind fun r1=>if(a1.Hide.length + [a0.Name].length) * 16≤140737488355328 then if a0.Call=true then none else if(!eqI a1.Made 0)=true then KU a0 a1 a2 a3 a4 a5 (a1.Hide++[a0.Name],a6,(-1),0) else KU a0 a1 a2 a3 a4 a5 (a1.Hide++[a0.Name],a6,a1.File,a1.At) else none
def Zi(a0:Macro)(a1:Token)(a2:List Macro)(a3:List Source)(a4 a5:Int)(a6:Nat)(a7:List Token)(r:YK):GI :=
 ⟨[.c (.pt 1 0),.c (.pp (List.drop 0 (Je a0).cells)),.ag [kI a1.Kind,kS a1.Text,kB a1.Space,kB a1.First,kI a1.File,kI a1.At,kI a1.End,kI a1.Line,.d (.sl 1 (List.map dS a1.Hide)),.d (.sl 3 (List.map Jk a1.Calls)),kI a1.Made],.c (.pt 2 0)],[[.d (.sl 5 (List.map Je a2)),.d (.sl 2 (List.map Jf a3)),kI a4,kI a5],[.os 3 11 0 a6],[.arr 11 (List.map Ja a7)]],[],.ret (.c (.os 4 11 0 r.2.length)) [[.d (.sl 5 (List.map Je a2)),.d (.sl 2 (List.map Jf a3)),kI a4,kI a5],[.os 3 11 0 r.1],[.arr 11 (List.map Ja a7)],[.arr 11 (List.map Ja r.2)]] []⟩
def Zp:GI→Prop:=Sg8 VD Zi
theorem Jhv:∀ g,Zp g→Jm Tryz.prog 126 g:=by
 rintro _ ⟨a0,a1,a2,a3,a4,a5,a6,a7,r,H,rfl⟩
 refine xGnl mixed [1,27] [] [(138,true,Ve),(144,true,XW),(145,true,KF),(143,true,JeH),(146,true,Jdo)] [] trivial ⟨XE,Jbo,VH,JgC,Je8,trivial⟩ trivial Tryz.func126 _ ?_
 have G:=True.intro
 have Y:=xZ y_3 <| xZ y_4 <| xZ y_9 <| xZ y_24 <| xZ y_41 <| xZ y_42 <| xZ y_44 <| xZ y_63 <| xZ y_81 <| xZ Jn7 <| xZ JmW <| xZ Tryz.results126 <| xZ Jf.eq_1 <| xZ Jk.eq_1 <| xZ Ja.eq_1 <| xZ Je.eq_1 <| xZ Jby.eq_1 <| xZ X1.eq_1 <| xZ Jac.eq_1 <| xZ JeJ.eq_1 <| xZ Jdj.eq_1 <| Zi.eq_1
 dsimp only[Zi]
 simp only[VD]at H
 refine xS ?_
 refine xr ?_
 obtain⟨r1,hr1,H⟩:=Ji H
 have F:=Y
 obtain⟨g,H⟩:=Jd H
 have F:=xZ F (JQ Jif [a0.Name])
 refine xP [0,1,3,4,5,6,7,2,8,9] [27] ⟨XE,Jbo,VH,JgC,Je8,trivial⟩ ?_
 refine xsX 5 ?_
 refine xaX ?_
 refine xsX 1 ?_
 refine xcX ⟨[],[]⟩ (tabG 0 (cg1 hr1)) ?_
 refine xbX ?_
 refine xsX 1 ?_
 refine xlX ?_
 refine xS ?_
 refine xr ?_
 refine xr ?_
 rcases xB Y G H with⟨p,H,F,G,q⟩|⟨p,H,F,G,q⟩
 ·refine xT ?_
  cases H
 refine xE ?_
 refine xr0 ?_
 refine Jl ?_
 refine Jp (KU a0 a1 a2 a3 a4 a5) (fun s=>[(0,.c (.pt 1 0)),(1,.c (.pp (List.drop 0 (Je a0).cells))),(6,.c (.pt 4 0)),(9,.c (.sl 1 (List.map dS s.1) 6)),(10,.c (.sl 1 [] 0)),(19,.c (.pt 5 0))]) (fun s=>[[.d (.sl 5 (List.map Je a2)),.d (.sl 2 (List.map Jf a3)),kI a4,kI a5],[.os 3 11 0 s.2.1],[.arr 11 (List.map Ja a7)],[kI a1.Kind,kS a1.Text,kB a1.Space,kB a1.First,kI a1.File,kI a1.At,kI a1.End,kI a1.Line,.d (.sl 1 (List.map dS a1.Hide)),.d (.sl 3 (List.map Jk a1.Calls)),kI a1.Made],[kS a0.Name,kI s.2.2.1,kI s.2.2.2]]) [9] r ?_ ?_
 ·refine xS ?_
  refine xr ?_
  rcases xB Y G H with⟨p,H,F,G,q⟩|⟨p,H,F,G,q⟩
  ·refine xT ?_
   refine xr ?_
   exact Jb H (xK ⟨[1,2,3,4,7],[6]⟩)
  refine xE ?_
  exact Jb H (xK ⟨[1,2,3,4,7],[6]⟩)
 rintro ⟨x1,x2,x3,x4⟩ H
 rw[KU]at H
 refine xS ?_
 obtain⟨r2,hr2,H⟩:=Ji H
 have F:=Y
 obtain⟨r3,hr3,H⟩:=Ji H
 have F:=F
 obtain⟨g,H⟩:=Jd H
 have F:=xZ F (JQ Ji5 [(⟨a0.Name,x3,x4⟩:Call)])
 obtain⟨r4,hr4,H⟩:=Ji H
 have F:=F
 refine xP [0,1,2,4,5,6,8,9,3,7,10,11,12] [109,111] ⟨XE,Jbo,VH,JgC,Je8,trivial⟩ ?_
 refine xsX 5 ?_
 refine xaX ?_
 refine xaX ?_
 refine xsX 1 ?_
 refine xcX ⟨[1],[]⟩ (tabG 1 (cg6 hr2)) ?_
 refine xcX ⟨[],[]⟩ (tabG 2 (cg1 hr3)) ?_
 refine xsX 1 ?_
 refine xcX ⟨[8],[]⟩ (tabG 3 (cg3 hr4)) ?_
 refine xsX 1 ?_
 refine xlX ?_
 refine xS ?_
 obtain⟨r5,hr5,H⟩:=Ji H
 have F:=Y
 refine xQ ?_
 refine xs 3 ?_
 refine xc ⟨[8],[]⟩ (tabG 4 (cg2 hr5)) ?_
 refine xs 1 ?_
 refine xl ?_
 replace H:=oI H
 refine xS ?_
 subst H
 refine xrD [] ?_
 exact xO ⟨[1,2,3,8],[]⟩
theorem JhX:Jc Tryz.prog 126∧(∀ g,Zp g→Jm Tryz.prog 126 g)∧(true=true→∀ g,Zp g→∃ val bs ts,g.out=.ret val bs ts) :=
 ⟨JzC,Jhv,fun _=>by rintro _ ⟨_,_,_,_,_,_,_,_,_,_,rfl⟩; exact⟨_,_,_,rfl⟩⟩
noncomputable def J0(a1:List Token):(Int×Nat×(List Token))→Option ((Int×Nat×(List Token)) ⊕ YK)
 | (x1,x2,x3)=>if(leI 0 x1)=true then if(0:Int)≤x1∧x1.toNat<a1.length then if x1.toNat<a1.length then if x2≤x3.length∧(x2 + [(a1.getD x1.toNat default)].length) * 120≤140737488355328 then some (.inl (IntKind.i64.wrap (x1-1),x2 + [(a1.getD x1.toNat default)].length,(List.take x2 x3)++[(a1.getD x1.toNat default)])) else none else none else none else inrO (some (x2,x3))
noncomputable def Xz(a0:Nat)(a1 a2:List Token):Option YK :=
 Jt (J0 a1) (IntKind.i64.wrap (((a1.length:Nat):Int)-1),a0,a2)
def Zs(a0:Nat)(a1 a2:List Token)(r:YK):GI :=
 ⟨[.c (.pt 1 0),.c (.os 2 11 0 a1.length)],[[.os 3 11 0 a0],[.arr 11 (List.map Ja a1)],[.arr 11 (List.map Ja a2)]],[],.ret (.tu []) [[.os 4 11 0 r.1],[],[],[.arr 11 (List.map Ja r.2)]] []⟩
def Zj:GI→Prop:=Sg3 Xz Zs
theorem Jhx:∀ g,Zj g→Jm Tryz.prog 121 g:=by
 rintro _ ⟨a0,a1,a2,r,H,rfl⟩
 refine xGn mixed [] [] [] trivial trivial trivial Tryz.func121 _ ?_
 have G:=True.intro
 have Y:=xZ y_24 <| xZ y_44 <| xZ Jn7 <| xZ Tryz.results121 <| xZ Jk.eq_1 <| xZ Ja.eq_1 <| Zs.eq_1
 dsimp only[Zs]
 simp only[Xz]at H
 refine xS ?_
 refine xrn 2 1 ?_
 refine xrn 3 1 ?_
 refine xr ?_
 refine JZ (J0 a1) (fun s=>[(0,.c (.pt 1 0)),(1,.c (.os 4 11 0 a1.length)),(4,cI s.1)]) (fun s=>[[.os 5 11 0 s.2.1],[],[],[.arr 11 (List.map Ja a1)],[.arr 11 (List.map Ja s.2.2)]]) [] H (xK ⟨[1,2,3,4,5],[]⟩) ?_
 rintro n1 ⟨x1,x2,x3⟩ o1 H hF1
 rw[J0]at H
 refine xS ?_
 refine xr ?_
 rcases xB Y G H with⟨p,H,F,G,q⟩|⟨p,H,F,G,q⟩
 ·refine xT ?_
  obtain⟨g,H⟩:=Jd H
  obtain⟨g,H⟩:=Jd H
  have F:=xZ Y (Jh Ja a1 x1.toNat default default (by omega))
  obtain⟨g,H⟩:=Jd H
  have F:=xZ F (JQ KO [(a1.getD x1.toNat default)])
  have T:=JeP x3 x2 (by omega)
  have F:=xZ F (Nat.min_eq_left (show x2≤x3.length by omega))
  have G:=xZ G (Nat.min_eq_left (show x2≤x3.length by omega))
  have F:=xZ F (Jcw Ja T)
  have G:=xZ G (Jcw Ja T)
  have L:[(a1.getD x1.toNat default)].length=1:=rfl
  refine xR ?_
  refine xr ?_
  exact JB (JG H hF1) (xK ⟨[1,2,3,4,6],[]⟩)
 replace H:=Js H hF1
 replace H:=oI H
 refine xE ?_
 subst H
 refine xnD [] ?_
 exact xO ⟨[1,2,3,5],[]⟩
theorem Jh1:Jc Tryz.prog 121∧(∀ g,Zj g→Jm Tryz.prog 121 g)∧(true=true→∀ g,Zj g→∃ val bs ts,g.out=.ret val bs ts) :=
 ⟨JuC,Jhx,fun _=>by rintro _ ⟨_,_,_,_,_,rfl⟩; exact⟨_,_,_,rfl⟩⟩
noncomputable def X4(a0:Nat)(a1:List Token):Option Yg :=
 if(0:Int)≤(IntKind.i64.wrap (((a0:Nat):Int)-1))∧(IntKind.i64.wrap (((a0:Nat):Int)-1)).toNat<a0 then if(IntKind.i64.wrap (((a0:Nat):Int)-1)).toNat<a1.length then if(0:Int)≤0∧0≤(IntKind.i64.wrap (((a0:Nat):Int)-1))∧(IntKind.i64.wrap (((a0:Nat):Int)-1))≤((a0:Nat):Int) then some ((a1.getD ((IntKind.i64.wrap (((a0:Nat):Int)-1)).toNat) default).Kind,(a1.getD ((IntKind.i64.wrap (((a0:Nat):Int)-1)).toNat) default).Text,(a1.getD ((IntKind.i64.wrap (((a0:Nat):Int)-1)).toNat) default).Space,(a1.getD ((IntKind.i64.wrap (((a0:Nat):Int)-1)).toNat) default).First,(a1.getD ((IntKind.i64.wrap (((a0:Nat):Int)-1)).toNat) default).File,(a1.getD ((IntKind.i64.wrap (((a0:Nat):Int)-1)).toNat) default).At,(a1.getD ((IntKind.i64.wrap (((a0:Nat):Int)-1)).toNat) default).End,(a1.getD ((IntKind.i64.wrap (((a0:Nat):Int)-1)).toNat) default).Line,(a1.getD ((IntKind.i64.wrap (((a0:Nat):Int)-1)).toNat) default).Hide,(a1.getD ((IntKind.i64.wrap (((a0:Nat):Int)-1)).toNat) default).Calls,(a1.getD ((IntKind.i64.wrap (((a0:Nat):Int)-1)).toNat) default).Made,(IntKind.i64.wrap (((a0:Nat):Int)-1)).toNat) else none else none else none
def ZR(a0:Nat)(a1:List Token)(r:Yg):GI :=
 ⟨[.c (.pt 1 0)],[[.os 2 11 0 a0],[.arr 11 (List.map Ja a1)]],[],.ret (.ag [kI r.1,kS r.2.1,kB r.2.2.1,kB r.2.2.2.1,kI r.2.2.2.2.1,kI r.2.2.2.2.2.1,kI r.2.2.2.2.2.2.1,kI r.2.2.2.2.2.2.2.1,.d (.sl 1 (List.map dS r.2.2.2.2.2.2.2.2.1)),.d (.sl 3 (List.map Jk r.2.2.2.2.2.2.2.2.2.1)),kI r.2.2.2.2.2.2.2.2.2.2.1]) [[.os 2 11 0 r.2.2.2.2.2.2.2.2.2.2.2],[.arr 11 (List.map Ja a1)]] []⟩
def ZU:GI→Prop:=Sg2 X4 ZR
theorem JhP:∀ g,ZU g→Jm Tryz.prog 122 g:=by
 rintro _ ⟨a0,a1,r,H,rfl⟩
 refine xGn mixed [] [] [] trivial trivial trivial Tryz.func122 _ ?_
 have G:=True.intro
 have Y:=xZ y_44 <| xZ Jn7 <| xZ Tryz.results122 <| xZ Jk.eq_1 <| xZ Ja.eq_1 <| ZR.eq_1
 dsimp only[ZR]
 simp only[X4]at H
 refine xS ?_
 refine xr ?_
 obtain⟨g,H⟩:=Jd H
 obtain⟨g,H⟩:=Jd H
 have F:=xZ Y (Jh Ja a1 ((IntKind.i64.wrap (((a0:Nat):Int)-1)).toNat) default default (by omega))
 refine xR ?_
 obtain⟨g,H⟩:=Jd H
 refine xr ?_
 replace H:=oI H
 refine xr ?_
 subst H
 refine xrD [] ?_
 exact xO ⟨[1,2],[]⟩
theorem Jig:Jc Tryz.prog 122∧(∀ g,ZU g→Jm Tryz.prog 122 g)∧(true=true→∀ g,ZU g→∃ val bs ts,g.out=.ret val bs ts) :=
 ⟨JzT,JhP,fun _=>by rintro _ ⟨_,_,_,_,rfl⟩; exact⟨_,_,_,rfl⟩⟩
noncomputable def J4(a1:List Macro)(a2:List Source)(a4:Int)(x3 x4:List Token)(r3 x5 x7:Int)(x8:List UInt8)(x9 x10:Bool)(x11 x12 x13 x14:Int)(x15:List (List UInt8))(x16:List Call)(x17:Int):(Bool×Nat)→Option Yh
 | (x18,x19)=>if x18=true then if(x3.length + [(⟨x7,x8,x9,x10,x11,x12,x13,x14,x15,x16,x17⟩:Token)].length) * 120≤140737488355328 then if(ltI a4 ((x3.length + [(⟨x7,x8,x9,x10,x11,x12,x13,x14,x15,x16,x17⟩:Token)].length:Nat):Int))=true then(Jgc 4 x7 x8 x9 x10 x11 x12 x13 x14 x15 x16 x17).bind fun e2=>inrO (some (.er (4,x11,x12,r3))) else some (.inl (r3,x19,x3++[(⟨x7,x8,x9,x10,x11,x12,x13,x14,x15,x16,x17⟩:Token)],x4)) else none else if(0:Int)≤x5∧x5.toNat<a1.length then(VD (a1.getD x5.toNat default) (⟨x7,x8,x9,x10,x11,x12,x13,x14,x15,x16,x17⟩:Token) a1 a2 r3 a4 x19 x4).bind fun r5=>(Xz r5.1 r5.2 x4).bind fun r6=>some (.inl (r3,r6.1,x3,r6.2)) else none
noncomputable def Ki(a1:List Macro)(a2:List Source)(a4:Int)(x3 x4:List Token)(r3:Int):(Int×Nat×Int×(List UInt8)×Bool×Bool×Int×Int×Int×Int×YO×(List Call)×Int)→Option Yh
 | (x5,x6,x7,x8,x9,x10,x11,x12,x13,x14,x15,x16,x17)=>if(ltI x5 0)=true then J4 a1 a2 a4 x3 x4 r3 x5 x7 x8 x9 x10 x11 x12 x13 x14 x15 x16 x17 (true,x6) else if(0:Int)≤x5∧x5.toNat<a1.length then if((a1.getD x5.toNat default).Call)=true then if(eqI ((x6:Nat):Int) 0)=true then J4 a1 a2 a4 x3 x4 r3 x5 x7 x8 x9 x10 x11 x12 x13 x14 x15 x16 x17 (true,x6) else if(0:Int)≤(IntKind.i64.wrap (((x6:Nat):Int)-1))∧(IntKind.i64.wrap (((x6:Nat):Int)-1)).toNat<x6 then if(IntKind.i64.wrap (((x6:Nat):Int)-1)).toNat<x4.length then if(!eqS ((x4.getD ((IntKind.i64.wrap (((x6:Nat):Int)-1)).toNat) default).Text) [40])=true then J4 a1 a2 a4 x3 x4 r3 x5 x7 x8 x9 x10 x11 x12 x13 x14 x15 x16 x17 (true,x6) else if(0:Int)≤(IntKind.i64.wrap (((x6:Nat):Int)-1))∧(IntKind.i64.wrap (((x6:Nat):Int)-1)).toNat<x6 then if(IntKind.i64.wrap (((x6:Nat):Int)-1)).toNat<x4.length then J4 a1 a2 a4 x3 x4 r3 x5 x7 x8 x9 x10 x11 x12 x13 x14 x15 x16 x17 (!eqI ((x4.getD ((IntKind.i64.wrap (((x6:Nat):Int)-1)).toNat) default).Kind) 5,x6) else none else none else none else none else J4 a1 a2 a4 x3 x4 r3 x5 x7 x8 x9 x10 x11 x12 x13 x14 x15 x16 x17 (false,x6) else none
noncomputable def VT(a1:List Macro)(a2:List Source)(a4:Int)(x3 x4:List Token)(r2:Yg)(r3:Int):(Bool×Nat)→Option Yh
 | (x30,x31)=>if x30=true then(Vz a1 r2.2.1).bind fun r8=>Ki a1 a2 a4 x3 x4 r3 (r8,x31,r2.1,r2.2.1,r2.2.2.1,r2.2.2.2.1,r2.2.2.2.2.1,r2.2.2.2.2.2.1,r2.2.2.2.2.2.2.1,r2.2.2.2.2.2.2.2.1,r2.2.2.2.2.2.2.2.2.1,r2.2.2.2.2.2.2.2.2.2.1,r2.2.2.2.2.2.2.2.2.2.2.1) else Ki a1 a2 a4 x3 x4 r3 ((-1),x31,r2.1,r2.2.1,r2.2.2.1,r2.2.2.2.1,r2.2.2.2.2.1,r2.2.2.2.2.2.1,r2.2.2.2.2.2.2.1,r2.2.2.2.2.2.2.2.1,r2.2.2.2.2.2.2.2.2.1,r2.2.2.2.2.2.2.2.2.2.1,r2.2.2.2.2.2.2.2.2.2.2.1)
noncomputable def VQ(a1:List Macro)(a2:List Source)(a4:Int)(x3 x4:List Token)(r2:Yg)(r3:Int)(r7:YA):(Bool×Nat×Bool×Bool×Int×Int×Int×Int×YO×(List Call))→Option Yh
 | (x20,x21,x22,x23,x24,x25,x26,x27,x28,x29)=>if x20=true then Ki a1 a2 a4 x3 x4 r3 ((-1),x21,r7.1,r7.2.1,x22,x23,x24,x25,x26,x27,x28,x29,r7.2.2.1) else if(eqI r2.1 1)=true then(JU r2.2.2.2.2.2.2.2.2.1 r2.2.1).bind fun r9=>VT a1 a2 a4 x3 x4 r2 r3 (!r9,x21) else VT a1 a2 a4 x3 x4 r2 r3 (false,x21)
noncomputable def Jw(a1:List Macro)(a2:List Source)(a4:Int):(Int×Nat×(List Token)×(List Token))→Option Yh
 | (x1,x2,x3,x4)=>if(ltI 0 ((x2:Nat):Int))=true then(X4 x2 x4).bind fun r2=>grB (XA a1 a2 x1 a4 r2.1 r2.2.1 r2.2.2.1 r2.2.2.2.1 r2.2.2.2.2.1 r2.2.2.2.2.2.1 r2.2.2.2.2.2.2.1 r2.2.2.2.2.2.2.2.1 r2.2.2.2.2.2.2.2.2.1 r2.2.2.2.2.2.2.2.2.2.1 r2.2.2.2.2.2.2.2.2.2.2.1) (fun r3=>(Xi (⟨r2.1,r2.2.1,r2.2.2.1,r2.2.2.2.1,r2.2.2.2.2.1,r2.2.2.2.2.2.1,r2.2.2.2.2.2.2.1,r2.2.2.2.2.2.2.2.1,r2.2.2.2.2.2.2.2.2.1,r2.2.2.2.2.2.2.2.2.2.1,r2.2.2.2.2.2.2.2.2.2.2.1⟩:Token) a1 a2 r3 a4).bind fun r7=>if r7.2.2.2=true then VQ a1 a2 a4 x3 x4 r2 r3 r7 (eqI r2.1 1,r2.2.2.2.2.2.2.2.2.2.2.2,(⟨r2.1,r2.2.1,r2.2.2.1,r2.2.2.2.1,r2.2.2.2.2.1,r2.2.2.2.2.2.1,r2.2.2.2.2.2.2.1,r2.2.2.2.2.2.2.2.1,r2.2.2.2.2.2.2.2.2.1,r2.2.2.2.2.2.2.2.2.2.1,r2.2.2.2.2.2.2.2.2.2.2.1⟩:Token).Space,(⟨r2.1,r2.2.1,r2.2.2.1,r2.2.2.2.1,r2.2.2.2.2.1,r2.2.2.2.2.2.1,r2.2.2.2.2.2.2.1,r2.2.2.2.2.2.2.2.1,r2.2.2.2.2.2.2.2.2.1,r2.2.2.2.2.2.2.2.2.2.1,r2.2.2.2.2.2.2.2.2.2.2.1⟩:Token).First,(⟨r2.1,r2.2.1,r2.2.2.1,r2.2.2.2.1,r2.2.2.2.2.1,r2.2.2.2.2.2.1,r2.2.2.2.2.2.2.1,r2.2.2.2.2.2.2.2.1,r2.2.2.2.2.2.2.2.2.1,r2.2.2.2.2.2.2.2.2.2.1,r2.2.2.2.2.2.2.2.2.2.2.1⟩:Token).File,(⟨r2.1,r2.2.1,r2.2.2.1,r2.2.2.2.1,r2.2.2.2.2.1,r2.2.2.2.2.2.1,r2.2.2.2.2.2.2.1,r2.2.2.2.2.2.2.2.1,r2.2.2.2.2.2.2.2.2.1,r2.2.2.2.2.2.2.2.2.2.1,r2.2.2.2.2.2.2.2.2.2.2.1⟩:Token).At,(⟨r2.1,r2.2.1,r2.2.2.1,r2.2.2.2.1,r2.2.2.2.2.1,r2.2.2.2.2.2.1,r2.2.2.2.2.2.2.1,r2.2.2.2.2.2.2.2.1,r2.2.2.2.2.2.2.2.2.1,r2.2.2.2.2.2.2.2.2.2.1,r2.2.2.2.2.2.2.2.2.2.2.1⟩:Token).End,(⟨r2.1,r2.2.1,r2.2.2.1,r2.2.2.2.1,r2.2.2.2.2.1,r2.2.2.2.2.2.1,r2.2.2.2.2.2.2.1,r2.2.2.2.2.2.2.2.1,r2.2.2.2.2.2.2.2.2.1,r2.2.2.2.2.2.2.2.2.2.1,r2.2.2.2.2.2.2.2.2.2.2.1⟩:Token).Line,(⟨r2.1,r2.2.1,r2.2.2.1,r2.2.2.2.1,r2.2.2.2.2.1,r2.2.2.2.2.2.1,r2.2.2.2.2.2.2.1,r2.2.2.2.2.2.2.2.1,r2.2.2.2.2.2.2.2.2.1,r2.2.2.2.2.2.2.2.2.2.1,r2.2.2.2.2.2.2.2.2.2.2.1⟩:Token).Hide,(⟨r2.1,r2.2.1,r2.2.2.1,r2.2.2.2.1,r2.2.2.2.2.1,r2.2.2.2.2.2.1,r2.2.2.2.2.2.2.1,r2.2.2.2.2.2.2.2.1,r2.2.2.2.2.2.2.2.2.1,r2.2.2.2.2.2.2.2.2.2.1,r2.2.2.2.2.2.2.2.2.2.2.1⟩:Token).Calls) else VQ a1 a2 a4 x3 x4 r2 r3 r7 (false,r2.2.2.2.2.2.2.2.2.2.2.2,(⟨r2.1,r2.2.1,r2.2.2.1,r2.2.2.2.1,r2.2.2.2.2.1,r2.2.2.2.2.2.1,r2.2.2.2.2.2.2.1,r2.2.2.2.2.2.2.2.1,r2.2.2.2.2.2.2.2.2.1,r2.2.2.2.2.2.2.2.2.2.1,r2.2.2.2.2.2.2.2.2.2.2.1⟩:Token).Space,(⟨r2.1,r2.2.1,r2.2.2.1,r2.2.2.2.1,r2.2.2.2.2.1,r2.2.2.2.2.2.1,r2.2.2.2.2.2.2.1,r2.2.2.2.2.2.2.2.1,r2.2.2.2.2.2.2.2.2.1,r2.2.2.2.2.2.2.2.2.2.1,r2.2.2.2.2.2.2.2.2.2.2.1⟩:Token).First,(⟨r2.1,r2.2.1,r2.2.2.1,r2.2.2.2.1,r2.2.2.2.2.1,r2.2.2.2.2.2.1,r2.2.2.2.2.2.2.1,r2.2.2.2.2.2.2.2.1,r2.2.2.2.2.2.2.2.2.1,r2.2.2.2.2.2.2.2.2.2.1,r2.2.2.2.2.2.2.2.2.2.2.1⟩:Token).File,(⟨r2.1,r2.2.1,r2.2.2.1,r2.2.2.2.1,r2.2.2.2.2.1,r2.2.2.2.2.2.1,r2.2.2.2.2.2.2.1,r2.2.2.2.2.2.2.2.1,r2.2.2.2.2.2.2.2.2.1,r2.2.2.2.2.2.2.2.2.2.1,r2.2.2.2.2.2.2.2.2.2.2.1⟩:Token).At,(⟨r2.1,r2.2.1,r2.2.2.1,r2.2.2.2.1,r2.2.2.2.2.1,r2.2.2.2.2.2.1,r2.2.2.2.2.2.2.1,r2.2.2.2.2.2.2.2.1,r2.2.2.2.2.2.2.2.2.1,r2.2.2.2.2.2.2.2.2.2.1,r2.2.2.2.2.2.2.2.2.2.2.1⟩:Token).End,(⟨r2.1,r2.2.1,r2.2.2.1,r2.2.2.2.1,r2.2.2.2.2.1,r2.2.2.2.2.2.1,r2.2.2.2.2.2.2.1,r2.2.2.2.2.2.2.2.1,r2.2.2.2.2.2.2.2.2.1,r2.2.2.2.2.2.2.2.2.2.1,r2.2.2.2.2.2.2.2.2.2.2.1⟩:Token).Line,(⟨r2.1,r2.2.1,r2.2.2.1,r2.2.2.2.1,r2.2.2.2.2.1,r2.2.2.2.2.2.1,r2.2.2.2.2.2.2.1,r2.2.2.2.2.2.2.2.1,r2.2.2.2.2.2.2.2.2.1,r2.2.2.2.2.2.2.2.2.2.1,r2.2.2.2.2.2.2.2.2.2.2.1⟩:Token).Hide,(⟨r2.1,r2.2.1,r2.2.2.1,r2.2.2.2.1,r2.2.2.2.2.1,r2.2.2.2.2.2.1,r2.2.2.2.2.2.2.1,r2.2.2.2.2.2.2.2.1,r2.2.2.2.2.2.2.2.2.1,r2.2.2.2.2.2.2.2.2.2.1,r2.2.2.2.2.2.2.2.2.2.2.1⟩:Token).Calls)) (fun e1=>inrO (some (.er (11,r2.2.2.2.2.1,r2.2.2.2.2.2.1,x1)))) else inrO (some (.ok (x3,x1)))
noncomputable def Za(a0:List Token)(a1:List Macro)(a2:List Source)(a3 a4:Int):Option (GR YG YL) :=
 (Jap a0 []).bind fun r1=>Jt (Jw a1 a2 a4) (a3,r1.length,([]:List Token),r1)
def Jih(a0:List Token)(a1:List Macro)(a2:List Source)(a3 a4:Int):GR YG YL→GOut
 | .ok r=>.ret (.c (.d (.sl 11 (List.map Ja r.1)))) [[.d (.sl 5 (List.map Je a1)),.d (.sl 2 (List.map Jf a2)),kI r.2,kI a4]] []
 | .er r=>.pan (.iface 170 (.agg ⟨[.int .i64 r.1,.int .i64 r.2.1,.int .i64 r.2.2.1]⟩)) [[.d (.sl 5 (List.map Je a1)),.d (.sl 2 (List.map Jf a2)),kI r.2.2.2,kI a4]] []
def Z5(a0:List Token)(a1:List Macro)(a2:List Source)(a3 a4:Int)(r:GR YG YL):GI :=
 ⟨[.c (.pt 1 0),.c (.d (.sl 11 (List.map Ja a0)))],[[.d (.sl 5 (List.map Je a1)),.d (.sl 2 (List.map Jf a2)),kI a3,kI a4]],[],Jih a0 a1 a2 a3 a4 r⟩
def Z2:GI→Prop:=Sg5 Za Z5
theorem Jh4:∀ g,Z2 g→Jm Tryz.prog 104 g:=by
 rintro _ ⟨a0,a1,a2,a3,a4,r,H,rfl⟩
 refine xGn mixed [(86,JcZ),(108,VI)] [(121,true,Jbk),(122,true,ZU),(123,false,Zn),(125,false,JcS),(126,true,Zp),(121,true,Zj),(124,true,XZ)] [] ⟨⟨JoN,JgH⟩,⟨JAf,Jee⟩,trivial⟩ ⟨JjP,Jig,JhR,JjG,JhX,Jh1,Jhw,trivial⟩ trivial Tryz.func104 _ ?_
 have G:=True.intro
 have Y:=xZ y_3 <| xZ y_4 <| xZ y_9 <| xZ y_24 <| xZ y_28 <| xZ y_41 <| xZ y_44 <| xZ y_63 <| xZ JsG <| xZ Jn7 <| xZ Tryz.results104 <| xZ Jf.eq_1 <| xZ Jk.eq_1 <| xZ Ja.eq_1 <| xZ Je.eq_1 <| xZ Jbl.eq_1 <| xZ ZR.eq_1 <| xZ Zh.eq_1 <| xZ Jc6.eq_1 <| xZ Zi.eq_1 <| xZ Zs.eq_1 <| xZ XU.eq_1 <| Z5.eq_1
 dsimp only[Z5]
 simp only[Za]at H
 refine xS ?_
 refine xr ?_
 refine xr ?_
 obtain⟨r1,hr1,H⟩:=Ji H
 have F:=Y
 refine xQ ?_
 refine xs 1 ?_
 refine xc ⟨[2,0],[]⟩ (tabG 0 (cg2 hr1)) ?_
 refine xl ?_
 refine xS ?_
 refine xr ?_
 refine JZ (Jw a1 a2 a4) (fun s=>[(0,.c (.pt 1 0)),(5,.c (.pt 2 0)),(6,.c (.os 3 11 0 s.2.2.1.length))]) (fun s=>[[.d (.sl 5 (List.map Je a1)),.d (.sl 2 (List.map Jf a2)),kI s.1,kI a4],[.os 4 11 0 s.2.1],[.arr 11 (List.map Ja s.2.2.1)],[.arr 11 (List.map Ja s.2.2.2)]]) [] H (xK ⟨[1,2,0,5],[]⟩) ?_
 rintro n1 ⟨x1,x2,x3,x4⟩ o1 H hF1
 rw[Jw]at H
 refine xS ?_
 refine xr ?_
 rcases xB Y G H with⟨p,H,F,G,q⟩|⟨p,H,F,G,q⟩
 ·refine xT ?_
  obtain⟨r2,hr2,H⟩:=Ji H
  have F:=Y
  refine xQ ?_
  refine xc ⟨[2,4],[]⟩ (tabG 1 (cg2 hr2)) ?_
  refine xs 2 ?_
  refine xl ?_
  refine xS ?_
  rcases Zy H with⟨r3,hr3,H⟩|⟨e1,hr4,H⟩
  ·have F:=Y
   refine xQ ?_
   refine xs 1 ?_
   refine xc ⟨[1,7],[]⟩ (tabG 2 (cg15 hr3)) ?_
   refine xl ?_
   refine xS ?_
   refine xr0 ?_
   refine Jl ?_
   refine Jp (Ki a1 a2 a4 x3 x4 r3) (fun s=>[(0,.c (.pt 1 0)),(5,.c (.pt 2 0)),(6,.c (.os 3 11 0 x3.length)),(7,.c (.pt 4 0)),(8,cI s.1)]) (fun s=>[[.d (.sl 5 (List.map Je a1)),.d (.sl 2 (List.map Jf a2)),kI r3,kI a4],[.os 5 11 0 s.2.1],[.arr 11 (List.map Ja x3)],[kI s.2.2.1,kS s.2.2.2.1,kB s.2.2.2.2.1,kB s.2.2.2.2.2.1,kI s.2.2.2.2.2.2.1,kI s.2.2.2.2.2.2.2.1,kI s.2.2.2.2.2.2.2.2.1,kI s.2.2.2.2.2.2.2.2.2.1,.d (.sl 1 (List.map dS s.2.2.2.2.2.2.2.2.2.2.1)),.d (.sl 3 (List.map Jk s.2.2.2.2.2.2.2.2.2.2.2.1)),kI s.2.2.2.2.2.2.2.2.2.2.2.2],[.arr 11 (List.map Ja x4)]]) [] o1 ?_ ?_
   ·refine xS ?_
    obtain⟨r7,hr9,H⟩:=Ji H
    have F:=Y
    refine xQ ?_
    refine xs 2 ?_
    refine xc ⟨[1],[]⟩ (tabG 6 (cg5 hr9)) ?_
    refine xs 6 ?_
    refine xl ?_
    refine  ?_
    refine Jl ?_
    refine Jp (VQ a1 a2 a4 x3 x4 r2 r3 r7) (fun s=>[(0,.c (.pt 1 0)),(5,.c (.pt 2 0)),(6,.c (.os 3 11 0 x3.length)),(7,.c (.pt 4 0)),(8,cI (-1)),(9,.c (.pt 5 0)),(30,cB s.1)]) (fun s=>[[.d (.sl 5 (List.map Je a1)),.d (.sl 2 (List.map Jf a2)),kI r3,kI a4],[.os 6 11 0 s.2.1],[.arr 11 (List.map Ja x3)],[kI r2.1,kS r2.2.1,kB r2.2.2.1,kB r2.2.2.2.1,kI r2.2.2.2.2.1,kI r2.2.2.2.2.2.1,kI r2.2.2.2.2.2.2.1,kI r2.2.2.2.2.2.2.2.1,.d (.sl 1 (List.map dS r2.2.2.2.2.2.2.2.2.1)),.d (.sl 3 (List.map Jk r2.2.2.2.2.2.2.2.2.2.1)),kI r2.2.2.2.2.2.2.2.2.2.2.1],[kI r7.1,kS r7.2.1,kB s.2.2.1,kB s.2.2.2.1,kI s.2.2.2.2.1,kI s.2.2.2.2.2.1,kI s.2.2.2.2.2.2.1,kI s.2.2.2.2.2.2.2.1,.d (.sl 1 (List.map dS s.2.2.2.2.2.2.2.2.1)),.d (.sl 3 (List.map Jk s.2.2.2.2.2.2.2.2.2)),kI r7.2.2.1],[.arr 11 (List.map Ja x4)]]) [] o1 ?_ ?_
    ·rcases xB Y G H with⟨p,H,F,G,q⟩|⟨p,H,F,G,q⟩
     ·refine xR ?_
      exact Jb H (xK ⟨[1,2,3,7,11,4],[]⟩)
     refine xR ?_
     exact Jb H (xK ⟨[1,2,3,7,11,4],[]⟩)
    rintro ⟨x20,x21,x22,x23,x24,x25,x26,x27,x28,x29⟩ H
    rw[VQ]at H
    rcases xB Y G H with⟨p,H,F,G,q⟩|⟨p,H,F,G,q⟩
    ·refine xT ?_
     refine xr ?_
     exact Jb H (xK ⟨[1,2,3,4,6],[]⟩)
    refine xE0 ?_
    refine Jp (VT a1 a2 a4 x3 x4 r2 r3) (fun s=>[(0,.c (.pt 1 0)),(5,.c (.pt 2 0)),(6,.c (.os 3 11 0 x3.length)),(7,.c (.pt 4 0)),(8,cI (-1)),(42,cB s.1)]) (fun s=>[[.d (.sl 5 (List.map Je a1)),.d (.sl 2 (List.map Jf a2)),kI r3,kI a4],[.os 5 11 0 s.2],[.arr 11 (List.map Ja x3)],[kI r2.1,kS r2.2.1,kB r2.2.2.1,kB r2.2.2.2.1,kI r2.2.2.2.2.1,kI r2.2.2.2.2.2.1,kI r2.2.2.2.2.2.2.1,kI r2.2.2.2.2.2.2.2.1,.d (.sl 1 (List.map dS r2.2.2.2.2.2.2.2.2.1)),.d (.sl 3 (List.map Jk r2.2.2.2.2.2.2.2.2.2.1)),kI r2.2.2.2.2.2.2.2.2.2.2.1],[.arr 11 (List.map Ja x4)]]) [] o1 ?_ ?_
    ·rcases xB Y G H with⟨p,H,F,G,q⟩|⟨p,H,F,G,q⟩
     ·obtain⟨r9,hr11,H⟩:=Ji H
      have F:=xCf F (Jek r2.2.2.2.2.2.2.2.2.1 r2.2.1 r9 hr11)
      refine xR ?_
      exact Jb H (xK ⟨[1,2,3,4,6],[]⟩)
     refine xR ?_
     exact Jb H (xK ⟨[1,2,3,4,6],[]⟩)
    rintro ⟨x30,x31⟩ H
    rw[VT]at H
    rcases xB Y G H with⟨p,H,F,G,q⟩|⟨p,H,F,G,q⟩
    ·refine xT ?_
     obtain⟨r8,hr10,H⟩:=Ji H
     have F:=xC Y (Jg3 a1 r2.2.1 r8 hr10)
     refine xR ?_
     exact Jb H (xK ⟨[1,2,3,4,5],[]⟩)
    refine xE ?_
    exact Jb H (xK ⟨[1,2,3,4,5],[]⟩)
   rintro ⟨x5,x6,x7,x8,x9,x10,x11,x12,x13,x14,x15,x16,x17⟩ H
   rw[Ki]at H
   refine Vl ?_
   refine Jp (J4 a1 a2 a4 x3 x4 r3 x5 x7 x8 x9 x10 x11 x12 x13 x14 x15 x16 x17) (fun s=>[(0,.c (.pt 1 0)),(5,.c (.pt 2 0)),(6,.c (.os 3 11 0 x3.length)),(7,.c (.pt 4 0)),(8,cI x5),(86,cB s.1)]) (fun s=>[[.d (.sl 5 (List.map Je a1)),.d (.sl 2 (List.map Jf a2)),kI r3,kI a4],[.os 5 11 0 s.2],[.arr 11 (List.map Ja x3)],[kI x7,kS x8,kB x9,kB x10,kI x11,kI x12,kI x13,kI x14,.d (.sl 1 (List.map dS x15)),.d (.sl 3 (List.map Jk x16)),kI x17],[.arr 11 (List.map Ja x4)]]) [] o1 ?_ ?_
   ·rcases xB Y G H with⟨p,H,F,G,q⟩|⟨p,H,F,G,q⟩
    ·refine xR ?_
     exact Jb H (xK ⟨[1,2,3,4,5],[]⟩)
    obtain⟨g,H⟩:=Jd H
    have F:=xZ F (Jh Je a1 x5.toNat default default (by omega))
    rcases xB F G H with⟨p,H,F,G,q⟩|⟨p,H,F,G,q⟩
    ·rcases xB F G H with⟨p,H,F,G,q⟩|⟨p,H,F,G,q⟩
     ·refine xR ?_
      exact Jb H (xK ⟨[1,2,3,4,5],[]⟩)
     obtain⟨g,H⟩:=Jd H
     obtain⟨g,H⟩:=Jd H
     have F:=xZ F (Jh Ja x4 ((IntKind.i64.wrap (((x6:Nat):Int)-1)).toNat) default default (by omega))
     rcases xB F G H with⟨p,H,F,G,q⟩|⟨p,H,F,G,q⟩
     ·refine xR ?_
      exact Jb H (xK ⟨[1,2,3,4,5],[]⟩)
     obtain⟨g,H⟩:=Jd H
     obtain⟨g,H⟩:=Jd H
     have F:=xZ F (Jh Ja x4 ((IntKind.i64.wrap (((x6:Nat):Int)-1)).toNat) default default (by omega))
     refine xR ?_
     exact Jb H (xK ⟨[1,2,3,4,5],[]⟩)
    refine xR ?_
    exact Jb H (xK ⟨[1,2,3,4,5],[]⟩)
   rintro ⟨x18,x19⟩ H
   rw[J4]at H
   rcases xB Y G H with⟨p,H,F,G,q⟩|⟨p,H,F,G,q⟩
   ·refine xT ?_
    obtain⟨g,H⟩:=Jd H
    have F:=xZ Y (JQ KO [(⟨x7,x8,x9,x10,x11,x12,x13,x14,x15,x16,x17⟩:Token)])
    have L:[(⟨x7,x8,x9,x10,x11,x12,x13,x14,x15,x16,x17⟩:Token)].length=1:=rfl
    refine xR ?_
    refine xr ?_
    rcases xB Y G H with⟨p,H,F,G,q⟩|⟨p,H,F,G,q⟩
    ·refine xT ?_
     obtain⟨e2,hr6,H⟩:=Ji H
     have F:=Y
     refine xQp [98] ?_
     refine xp ⟨[4],[]⟩ (tabG 3 (cg12 hr6)) ?_
     replace H:=Js H hF1
     replace H:=oI H
     refine xS ?_
     subst H
     refine xpD [] ?_
     exact xOv ⟨[1],[]⟩
    refine xE ?_
    exact JB (JG H hF1) (xK ⟨[1,2,6,5],[]⟩)
   refine xE ?_
   obtain⟨g,H⟩:=Jd H
   have F:=xZ Y (Jh Je a1 x5.toNat default default (by omega))
   obtain⟨r5,hr7,H⟩:=Ji H
   have F:=F
   obtain⟨r6,hr8,H⟩:=Ji H
   have F:=F
   refine xQ ?_
   refine xs 8 ?_
   refine xc ⟨[1,2,5],[]⟩ (tabG 4 (cg8 hr7)) ?_
   refine xc ⟨[2,9,5],[]⟩ (tabG 5 (cg3 hr8)) ?_
   refine xl ?_
   refine xS ?_
   exact JB (JG H hF1) (xK ⟨[1,2,3,13],[]⟩)
  have F:=Y
  refine xQp [17,18] ?_
  refine xs 1 ?_
  refine xp ⟨[1,7],[]⟩ (tabG 2 (cg15 hr4)) ?_
  replace H:=Js H hF1
  replace H:=oI H
  refine xS ?_
  subst H
  refine xpD [] ?_
  exact xOv ⟨[1],[]⟩
 replace H:=Js H hF1
 refine xE ?_
 replace H:=oI H
 refine xr ?_
 subst H
 refine xOf 3 11 (List.map Ja x3) [] ?_
 refine xrD [] ?_
 exact xO ⟨[1],[]⟩
theorem Je4:Jc Tryz.prog 104∧(∀ g,Z2 g→Jm Tryz.prog 104 g)∧(false=true→∀ g,Z2 g→∃ val bs ts,g.out=.ret val bs ts) :=
 ⟨JzG,Jh4,nofun⟩
noncomputable def JfG(a0 a1 a2:Int):Option Unit :=
 some ()
def JbB(a0 a1 a2:Int)(r:Unit):DI :=
 ⟨[.c (.pt 1 0)],[[kI a0,kI a1,kI a2]],[],none,[[kI a0,kI a1,kI a2]],[],none⟩
def Jfi:DI→Prop:=fun d=>∃ (a0 a1 a2:Int) (r:Unit),JfG a0 a1 a2=some r∧d=JbB a0 a1 a2 r
theorem Jnl(a0 a1 a2:Int)(r:Unit)(H:JfG a0 a1 a2=some r):Jfi (JbB a0 a1 a2 r):=⟨a0,a1,a2,r,H,rfl⟩
theorem Jmo:∀ d,Jfi d→DOk Tryz.prog 103 d:=by
 rintro _ ⟨a0,a1,a2,r,H,rfl⟩
 refine xRcl mixed [] [] [] trivial trivial Tryz.func103 _ ?_
 have G:=True.intro
 have Y:=xZ y_20 <| xZ y_31 <| xZ Jxp <| xZ Tryz.results103 <| JbB.eq_1
 dsimp only[JbB,Option.getD_some,Option.getD_none]
 unfold JfG at H
 refine xS ?_
 refine xr ?_
 refine xt ?_
 replace H:=oI H
 refine xr ?_
 subst H
 exact xDn ⟨[1],[]⟩
noncomputable def Jde(a0 a1 a2:Int)(a3:List Token)(a4:Int):Option YL :=
 if(!eqI a0 0)=true then some (([]:List Token),0) else some (a3,a4)
def Zx(a0 a1 a2:Int)(a3:List Token)(a4:Int)(r:YL)(u:Option Value):DI :=
 ⟨[.c (.pt 1 0),.c (.pt 2 0),.c (.pt 3 0)],[[kI a0,kI a1,kI a2],[.d (.sl 11 (List.map Ja a3))],[kI a4]],[],u,[[kI a0,kI a1,kI a2],[.d (.sl 11 (List.map Ja r.1))],[kI r.2]],[],u⟩
def Jdr:DI→Prop:=fun d=>∃ (a0 a1 a2:Int) (a3:List Token) (a4:Int) (r:YL) (u:Option Value),Jde a0 a1 a2 a3 a4=some r∧d=Zx a0 a1 a2 a3 a4 r u
theorem Jli(a0 a1 a2:Int)(a3:List Token)(a4:Int)(r:YL)(u:Option Value)(H:Jde a0 a1 a2 a3 a4=some r):Jdr (Zx a0 a1 a2 a3 a4 r u):=⟨a0,a1,a2,a3,a4,r,u,H,rfl⟩
theorem JjT:∀ d,Jdr d→DOk Tryz.prog 102 d:=by
 rintro _ ⟨a0,a1,a2,a3,a4,r,u,H,rfl⟩
 refine xDf mixed [] [] trivial trivial Tryz.func102 _ ?_
 have G:=True.intro
 have Y:=xZ y_3 <| xZ y_24 <| xZ y_29 <| xZ y_31 <| xZ Tryz.results102 <| xZ Jk.eq_1 <| xZ Ja.eq_1 <| Zx.eq_1
 dsimp only[Zx]
 simp only[Jde]at H
 refine xS ?_
 refine xr ?_
 rcases xB Y G H with⟨p,H,F,G,q⟩|⟨p,H,F,G,q⟩
 ·refine xT ?_
  replace H:=oI H
  refine xr ?_
  subst H
  exact xDn ⟨[1,2,3],[]⟩
 replace H:=oI H
 refine xE ?_
 subst H
 exact xDn ⟨[1,2,3],[]⟩
noncomputable def Jdi(a0 a1 a2 a3 a4 a5:Int):Option Unit :=
 some ()
def ZE(a0 a1 a2 a3 a4 a5:Int)(r:Unit):DI :=
 ⟨[.c (.pt 1 0)],[[kI a0,kI a1,kI a2]],[],(some (.iface 170 (.agg ⟨[.int .i64 a3,.int .i64 a4,.int .i64 a5]⟩))),[[kI a3,kI a4,kI a5]],[],none⟩
def JdA:DI→Prop:=fun d=>∃ (a0 a1 a2 a3 a4 a5:Int) (r:Unit),Jdi a0 a1 a2 a3 a4 a5=some r∧d=ZE a0 a1 a2 a3 a4 a5 r
theorem JkV(a0 a1 a2 a3 a4 a5:Int)(r:Unit)(H:Jdi a0 a1 a2 a3 a4 a5=some r):JdA (ZE a0 a1 a2 a3 a4 a5 r):=⟨a0,a1,a2,a3,a4,a5,r,H,rfl⟩
theorem JjY:∀ d,JdA d→DOk Tryz.prog 103 d:=by
 rintro _ ⟨a0,a1,a2,a3,a4,a5,r,H,rfl⟩
 refine xRcl mixed [] [] [] trivial trivial Tryz.func103 _ ?_
 have G:=True.intro
 have Y:=xZ y_20 <| xZ y_31 <| xZ Jxp <| xZ Tryz.results103 <| ZE.eq_1
 dsimp only[ZE,Option.getD_some,Option.getD_none]
 unfold Jdi at H
 refine xS ?_
 refine xr ?_
 refine xe ?_
 refine xr ?_
 refine xt ?_
 refine xr ?_
 replace H:=oI H
 refine xr ?_
 subst H
 exact xDn ⟨[1],[]⟩
noncomputable def Jdf(a0 a1 a2:Int)(a3:List Token)(a4:Int):Option YL :=
 if(!eqI a0 0)=true then some (([]:List Token),0) else some (a3,a4)
def ZG(a0 a1 a2:Int)(a3:List Token)(a4:Int)(r:YL)(u:Option Value):DI :=
 ⟨[.c (.pt 1 0),.c (.pt 2 0),.c (.pt 3 0)],[[kI a0,kI a1,kI a2],[.sl 11 (List.map Ja a3) 4],[kI a4]],[44],u,[[kI a0,kI a1,kI a2],[.sl 11 (List.map Ja r.1) 4],[kI r.2]],[44],u⟩
def JdD:DI→Prop:=fun d=>∃ (a0 a1 a2:Int) (a3:List Token) (a4:Int) (r:YL) (u:Option Value),Jdf a0 a1 a2 a3 a4=some r∧d=ZG a0 a1 a2 a3 a4 r u
theorem Jk4(a0 a1 a2:Int)(a3:List Token)(a4:Int)(r:YL)(u:Option Value)(H:Jdf a0 a1 a2 a3 a4=some r):JdD (ZG a0 a1 a2 a3 a4 r u):=⟨a0,a1,a2,a3,a4,r,u,H,rfl⟩
theorem Jj1:∀ d,JdD d→DOk Tryz.prog 102 d:=by
 rintro _ ⟨a0,a1,a2,a3,a4,r,u,H,rfl⟩
 refine xDf mixed [] [] trivial trivial Tryz.func102 _ ?_
 have G:=True.intro
 have Y:=xZ y_3 <| xZ y_24 <| xZ y_29 <| xZ y_31 <| xZ Tryz.results102 <| xZ Jk.eq_1 <| xZ Ja.eq_1 <| ZG.eq_1
 dsimp only[ZG]
 simp only[Jdf]at H
 refine xS ?_
 refine xr ?_
 rcases xB Y G H with⟨p,H,F,G,q⟩|⟨p,H,F,G,q⟩
 ·refine xT ?_
  replace H:=oI H
  refine xr ?_
  subst H
  exact xDn ⟨[1,2,3],[0]⟩
 replace H:=oI H
 refine xE ?_
 subst H
 exact xDn ⟨[1,2,3],[4]⟩
noncomputable def VV(a0:List Source)(a1:List Macro)(a2:List Token)(a3 a4:Int):Bool→Option Yx
 | x1=>if x1=true then some (([]:List Token),0,3,(-1),0) else grB (Za a2 a1 a0 a3 a4) (fun r1=>(JfG 0 (-1) 0).bind fun r2=>(Jde 0 (-1) 0 r1.1 r1.2).bind fun r3=>some (r3.1,r3.2,0,(-1),0)) (fun e1=>(Jdi 0 0 0 e1.1 e1.2.1 e1.2.2.1).bind fun r4=>(Jdf e1.1 e1.2.1 e1.2.2.1 ([]:List Token) 0).bind fun r5=>some (r5.1,r5.2,e1.1,e1.2.1,e1.2.2.1))
noncomputable def JfE(a0:List Source)(a1:List Macro)(a2:List Token)(a3 a4:Int):Option Yx :=
 if(ltI a3 0)=true then VV a0 a1 a2 a3 a4 true else if(ltI 4000 a3)=true then VV a0 a1 a2 a3 a4 true else if(ltI a4 0)=true then VV a0 a1 a2 a3 a4 true else VV a0 a1 a2 a3 a4 (ltI 1500 a4)
def Jhe(a0:List Source)(a1:List Macro)(a2:List Token)(a3 a4:Int)(r:Yx):GI :=
 ⟨[.c (.d (.sl 2 (List.map Jf a0))),.c (.d (.sl 5 (List.map Je a1))),.c (.d (.sl 11 (List.map Ja a2))),cI a3,cI a4],[],[],.ret (.tu [(false,[.d (.sl 11 (List.map Ja r.1))]),(false,[kI r.2.1]),(true,[kI r.2.2.1,kI r.2.2.2.1,kI r.2.2.2.2])]) [] []⟩
def Jum:GI→Prop:=Sg5 JfE Jhe
theorem Jsp:∀ g,Jum g→Jm Tryz.prog 78 g:=by
 rintro _ ⟨a0,a1,a2,a3,a4,r,H,rfl⟩
 refine xGnl mixed [7] [] [(104,false,Z2)] [(103,Jfi),(102,Jdr),(103,JdA),(102,JdD)] trivial ⟨Je4,trivial⟩ ⟨⟨Jt0,Jmo⟩,⟨JuL,JjT⟩,⟨Jt0,JjY⟩,⟨JuL,Jj1⟩,trivial⟩ Tryz.func78 _ ?_
 have G:=True.intro
 have Y:=xZ y_3 <| xZ y_24 <| xZ y_28 <| xZ y_29 <| xZ y_31 <| xZ y_37 <| xZ JsG <| xZ Tryz.results78 <| xZ Jf.eq_1 <| xZ Jk.eq_1 <| xZ Ja.eq_1 <| xZ Je.eq_1 <| xZ Z5.eq_1 <| xZ JbB.eq_1 <| xZ Zx.eq_1 <| xZ ZE.eq_1 <| xZ ZG.eq_1 <| Jhe.eq_1
 dsimp only[Jhe]
 simp only[JfE]at H
 refine xS ?_
 refine xr0 ?_
 refine Jl ?_
 refine Vl ?_
 refine Jp (VV a0 a1 a2 a3 a4) (fun s=>[(0,.c (.d (.sl 2 (List.map Jf a0)))),(1,.c (.d (.sl 5 (List.map Je a1)))),(2,.c (.d (.sl 11 (List.map Ja a2)))),(3,cI a3),(4,cI a4),(10,.c (.pt 1 0)),(11,.c (.pt 2 0)),(12,.c (.pt 3 0)),(27,cB s)]) (fun s=>[[.sl 11 [] 0],[kI 0],[kI 0,kI 0,kI 0]]) [] r ?_ ?_
 ·rcases xB Y G H with⟨p,H,F,G,q⟩|⟨p,H,F,G,q⟩
  ·refine xR ?_
   exact Jb H (xK ⟨[1,2,3],[]⟩)
  rcases xB F G H with⟨p,H,F,G,q⟩|⟨p,H,F,G,q⟩
  ·refine xR ?_
   exact Jb H (xK ⟨[1,2,3],[]⟩)
  rcases xB F G H with⟨p,H,F,G,q⟩|⟨p,H,F,G,q⟩
  ·refine xR ?_
   exact Jb H (xK ⟨[1,2,3],[]⟩)
  refine xR ?_
  exact Jb H (xK ⟨[1,2,3],[]⟩)
 rintro x1 H
 rw[VV]at H
 rcases xB Y G H with⟨p,H,F,G,q⟩|⟨p,H,F,G,q⟩
 ·refine xT ?_
  replace H:=oI H
  refine xr ?_
  subst H
  refine xrD [] ?_
  exact xO ⟨[],[]⟩
 refine xE ?_
 have F:=Y
 refine xQ ?_
 refine xs 1 ?_
 refine xw ?_
 refine xl ?_
 refine xS ?_
 have F:=Y
 refine xQ ?_
 refine xw ?_
 refine xl ?_
 refine xS ?_
 refine xr ?_
 rcases Zy H with⟨r1,hr1,H⟩|⟨e1,hr2,H⟩
 ·have F:=Y
  refine xQ ?_
  refine xs 2 ?_
  refine xc ⟨[4],[]⟩ (tabG 0 (cg5 hr1)) ?_
  refine xs 1 ?_
  refine xl ?_
  refine xS ?_
  have F:=Y
  refine xP [0,1,2,3,4,5,6,7,8] [43] ⟨Je4,trivial⟩ ?_
  refine xsX 4 ?_
  refine xaX ?_
  refine xsX 1 ?_
  refine xbX ?_
  refine xbX ?_
  refine xbX ?_
  refine xlX ?_
  refine xS ?_
  refine xrD [(103,[.pt 3 0]),(102,[.pt 3 0,.pt 1 0,.pt 2 0])] ?_
  obtain⟨r2,hr3,H⟩:=Ji H
  refine xD ⟨[3],[]⟩ (tabD 0 (Jnl 0 (-1) 0 r2 hr3)) ?_
  obtain⟨r3,hr4,H⟩:=Ji H
  refine xD ⟨[3,1,2],[]⟩ (tabD 1 (Jli 0 (-1) 0 r1.1 r1.2 r3 none hr4)) ?_
  replace H:=oI H
  subst H
  exact xO ⟨[],[]⟩
 have F:=Y
 refine xQp [36,37,38] ?_
 refine xs 2 ?_
 refine xp ⟨[4],[]⟩ (tabG 0 (cg5 hr2)) ?_
 refine xS ?_
 refine xpD [(103,[.pt 3 0]),(102,[.pt 3 0,.pt 1 0,.pt 2 0])] ?_
 obtain⟨r4,hr5,H⟩:=Ji H
 refine xD ⟨[3],[]⟩ (tabD 2 (JkV 0 0 0 e1.1 e1.2.1 e1.2.2.1 r4 hr5)) ?_
 obtain⟨r5,hr6,H⟩:=Ji H
 refine xD ⟨[3,1,2],[0]⟩ (tabD 3 (Jk4 e1.1 e1.2.1 e1.2.2.1 ([]:List Token) 0 r5 none hr6)) ?_
 replace H:=oI H
 subst H
 exact xO ⟨[],[]⟩
end Go.Proofs.YtfkhlbhjhdpkoaaGreatDoor
