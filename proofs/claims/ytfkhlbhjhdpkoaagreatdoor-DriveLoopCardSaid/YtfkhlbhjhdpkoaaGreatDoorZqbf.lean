/- Functions of data for functions of the program. Written by dec3.py. -/
import Derived.Test.YtfkhlbhjhdpkoaaGreatDoorZqbc
set_option linter.unusedVariables false
set_option linter.unusedSimpArgs false
set_option maxHeartbeats 4000000
set_option maxRecDepth 100000
namespace Go.Proofs.YtfkhlbhjhdpkoaaGreatDoor
open Go.RowKit
noncomputable def VT(a0:List Token):YO→Option YC
 | (x1,x2)=>if(leI 0 x1)=true then if(0:Int)≤x1∧x1.toNat<a0.length then if(x2.length + [(a0.getD x1.toNat default)].length) * 120≤140737488355328 then some (.inl (IntKind.i64.wrap (x1-1),x2++[(a0.getD x1.toNat default)])) else none else none else inrO (some x2)
noncomputable def JaY(a0 a1:List Token):Option (List Token) :=
 Jv (VT a0) (IntKind.i64.wrap ((a0.length:Int)-1),a1)
def JbV(a0 a1:List Token)(r:(List Token)):GI :=
 ⟨[.c (.pt 1 0),.c (.d (.sl 11 (List.map Ja a0)))],[[.os 2 11 0 a1.length],[.arr 11 (List.map Ja a1)]],[],.ret (.tu []) [[.os 3 11 0 r.length],[],[.arr 11 (List.map Ja r)]] []⟩
def JbT:GI→Prop:=Sg2 JaY JbV
theorem JjS:∀ g,JbT g→Jm Tryz.prog 121 g:=by
 rintro _ ⟨a0,a1,r,H,rfl⟩
 refine xGn mixed [] [] [] trivial trivial trivial Tryz.func121 _ ?_
 have G:=True.intro
 have Y:=xZ y_24 <| xZ y_44 <| xZ JpQ <| xZ Tryz.results121 <| xZ Jl.eq_1 <| xZ Ja.eq_1 <| JbV.eq_1
 dsimp only[JbV]
 simp only[JaY]at H
 refine xS ?_
 refine xrn 2 1 ?_
 refine xr ?_
 refine JG (VT a0) (fun s=>[(0,.c (.pt 1 0)),(1,.c (.d (.sl 11 (List.map Ja a0)))),(4,cI s.1)]) (fun s=>[[.os 3 11 0 s.2.length],[],[.arr 11 (List.map Ja s.2)]]) [] H (xK ⟨[1,2,3],[]⟩) ?_
 rintro n1 ⟨x1,x2⟩ o1 H hF1
 rw[VT]at H
 refine xS ?_
 refine xr ?_
 rcases xB Y G H with⟨p,H,F,G,q⟩|⟨p,H,F,G,q⟩
 ·refine xT ?_
  obtain⟨g,H⟩:=Jc H
  have F:=xZ Y (Jh Ja a0 x1.toNat default default (by omega))
  obtain⟨g,H⟩:=Jc H
  have F:=xZ F (JH KL [(a0.getD x1.toNat default)])
  have L:[(a0.getD x1.toNat default)].length=1:=rfl
  refine xR ?_
  refine xr ?_
  exact Jw (JA H hF1) (xK ⟨[1,2,4],[]⟩)
 replace H:=Jq H hF1
 replace H:=oI H
 refine xE ?_
 subst H
 refine xnD [] ?_
 exact xO ⟨[1,2,3],[]⟩
theorem JkZ:Jd Tryz.prog 121∧(∀ g,JbT g→Jm Tryz.prog 121 g)∧(true=true→∀ g,JbT g→∃ val bs ts,g.out=.ret val bs ts) :=
 ⟨Jvo,JjS,fun _=>by rintro _ ⟨_,_,_,_,rfl⟩; exact⟨_,_,_,rfl⟩⟩
noncomputable def Jg9(a0 a1:Int)(a2:List UInt8)(a3 a4:Bool)(a5 a6 a7 a8:Int)(a9:List (List UInt8))(a10:List Call)(a11:Int):Option Unit :=
 some ()
def JdI(a0 a1:Int)(a2:List UInt8)(a3 a4:Bool)(a5 a6 a7 a8:Int)(a9:List (List UInt8))(a10:List Call)(a11:Int)(r:Unit):GI :=
 ⟨[cI a0,.c (.pt 1 0)],[[kI a1,kS a2,kB a3,kB a4,kI a5,kI a6,kI a7,kI a8,.d (.sl 1 (List.map dS a9)),.d (.sl 3 (List.map Jl a10)),kI a11]],[],.pan (.iface 170 (.agg ⟨[.int .i64 a0,.int .i64 a5,.int .i64 a6]⟩)) [[kI a1,kS a2,kB a3,kB a4,kI a5,kI a6,kI a7,kI a8,.d (.sl 1 (List.map dS a9)),.d (.sl 3 (List.map Jl a10)),kI a11]] []⟩
def JdL:GI→Prop:=Sg12 Jg9 JdI
theorem Jqg:∀ g,JdL g→Jm Tryz.prog 125 g:=by
 rintro _ ⟨a0,a1,a2,a3,a4,a5,a6,a7,a8,a9,a10,a11,r,H,rfl⟩
 refine xGn mixed [] [] [] trivial trivial trivial Tryz.func125 _ ?_
 have G:=True.intro
 have Y:=xZ y_3 <| xZ y_29 <| xZ y_31 <| xZ y_44 <| xZ JyY <| xZ Tryz.results125 <| xZ Jl.eq_1 <| xZ Ja.eq_1 <| JdI.eq_1
 dsimp only[JdI]
 unfold Jg9 at H
 have F:=Y
 refine xQp [4,5,6,7,8,9,10,11,12,13,14,15] ?_
 refine xs 12 ?_
 refine xv ?_
 refine xS ?_
 refine xpD [] ?_
 exact xOv ⟨[1],[]⟩
theorem JkV:Jd Tryz.prog 125∧(∀ g,JdL g→Jm Tryz.prog 125 g)∧(false=true→∀ g,JdL g→∃ val bs ts,g.out=.ret val bs ts) :=
 ⟨JA8,Jqg,nofun⟩
noncomputable def Ja7(a0:List Macro)(a1:List Source)(a2 a3 a4:Int)(a5:List UInt8)(a6 a7:Bool)(a8 a9 a10 a11:Int)(a12:List (List UInt8))(a13:List Call)(a14:Int):Option (GR Unit Int) :=
 if(eqI a2 0)=true then(Jg9 11 a4 a5 a6 a7 a8 a9 a10 a11 a12 a13 a14).bind fun e1=>some (.er ()) else some (.ok (IntKind.i64.wrap (a2-1)))
def JiY(a0:List Macro)(a1:List Source)(a2 a3 a4:Int)(a5:List UInt8)(a6 a7:Bool)(a8 a9 a10 a11:Int)(a12:List (List UInt8))(a13:List Call)(a14:Int):GR Unit Int→GOut
 | .ok r=>.ret (.tu []) [[.d (.sl 5 (List.map Jf a0)),.d (.sl 2 (List.map Jg a1)),kI r,kI a3],[kI a4,kS a5,kB a6,kB a7,kI a8,kI a9,kI a10,kI a11,.d (.sl 1 (List.map dS a12)),.d (.sl 3 (List.map Jl a13)),kI a14]] []
 | .er r=>.pan (.iface 170 (.agg ⟨[.int .i64 11,.int .i64 a8,.int .i64 a9]⟩)) [[.d (.sl 5 (List.map Jf a0)),.d (.sl 2 (List.map Jg a1)),kI a2,kI a3],[kI a4,kS a5,kB a6,kB a7,kI a8,kI a9,kI a10,kI a11,.d (.sl 1 (List.map dS a12)),.d (.sl 3 (List.map Jl a13)),kI a14]] []
def ZP(a0:List Macro)(a1:List Source)(a2 a3 a4:Int)(a5:List UInt8)(a6 a7:Bool)(a8 a9 a10 a11:Int)(a12:List (List UInt8))(a13:List Call)(a14:Int)(r:GR Unit Int):GI :=
 ⟨[.c (.pt 1 0),.c (.pt 2 0)],[[.d (.sl 5 (List.map Jf a0)),.d (.sl 2 (List.map Jg a1)),kI a2,kI a3],[kI a4,kS a5,kB a6,kB a7,kI a8,kI a9,kI a10,kI a11,.d (.sl 1 (List.map dS a12)),.d (.sl 3 (List.map Jl a13)),kI a14]],[],JiY a0 a1 a2 a3 a4 a5 a6 a7 a8 a9 a10 a11 a12 a13 a14 r⟩
def ZU:GI→Prop:=Sg15 Ja7 ZP
theorem JiC:∀ g,ZU g→Jm Tryz.prog 123 g:=by
 rintro _ ⟨a0,a1,a2,a3,a4,a5,a6,a7,a8,a9,a10,a11,a12,a13,a14,r,H,rfl⟩
 refine xGn mixed [] [(125,false,JdL)] [] trivial ⟨JkV,trivial⟩ trivial Tryz.func123 _ ?_
 have G:=True.intro
 have Y:=xZ y_3 <| xZ Juh <| xZ Tryz.results123 <| xZ Jg.eq_1 <| xZ Jl.eq_1 <| xZ Ja.eq_1 <| xZ Jf.eq_1 <| xZ JdI.eq_1 <| ZP.eq_1
 dsimp only[ZP]
 simp only[Ja7]at H
 refine xS ?_
 refine xr ?_
 rcases xB Y G H with⟨p,H,F,G,q⟩|⟨p,H,F,G,q⟩
 ·refine xT ?_
  obtain⟨e1,hr2,H⟩:=Ji H
  have F:=Y
  refine xQp [9,10] ?_
  refine xs 1 ?_
  refine xp ⟨[2],[]⟩ (tabG 0 (cg12 hr2)) ?_
  replace H:=oI H
  refine xS ?_
  subst H
  refine xpD [] ?_
  exact xOv ⟨[1,2],[]⟩
 refine xE ?_
 replace H:=oI H
 refine xr ?_
 subst H
 refine xnD [] ?_
 exact xO ⟨[1,2],[]⟩
theorem Ji2:Jd Tryz.prog 123∧(∀ g,ZU g→Jm Tryz.prog 123 g)∧(false=true→∀ g,ZU g→∃ val bs ts,g.out=.ret val bs ts) :=
 ⟨JBr,JiC,nofun⟩
noncomputable def X2:(Int×(List UInt8)×(List UInt8))→Option YE
 | (x1,x2,x3)=>some (x1,x2,3,true)
noncomputable def XP:((List UInt8)×(List UInt8))→Option YE
 | (x4,x5)=>if 1+x4.length≤9223372036854775807 then if 1+x4.length+1≤9223372036854775807 then X2 (4,([34]++x4)++[34],x5) else none else none
noncomputable def XT(a0:Token)(a2:List Source):((List UInt8)×Bool×(List UInt8))→Option YE
 | (x6,x7,x8)=>if x7=true then if(0:Int)≤a0.File∧a0.File.toNat<a2.length then XP ((a2.getD a0.File.toNat default).Path,x8) else none else XP (x6,x8)
noncomputable def JF(a0:Token)(a1:List Macro)(a2:List Source)(a3 a4:Int):Option YE :=
 if(eqS a0.Text [95,95,76,73,78,69,95,95])=true then(JbL a0.Line).bind fun r1=>X2 (2,r1,[]) else if(eqS a0.Text [95,95,70,73,76,69,95,95])=true then if(leI 0 a0.File)=true then XT a0 a2 ([],ltI a0.File (a2.length:Int),[]) else XT a0 a2 ([],false,[]) else some (a0.Kind,a0.Text,a0.Made,false)
def Zo(a0:Token)(a1:List Macro)(a2:List Source)(a3 a4:Int)(r:YE):GI :=
 ⟨[.c (.pt 1 0),.ag [kI a0.Kind,kS a0.Text,kB a0.Space,kB a0.First,kI a0.File,kI a0.At,kI a0.End,kI a0.Line,.d (.sl 1 (List.map dS a0.Hide)),.d (.sl 3 (List.map Jl a0.Calls)),kI a0.Made]],[[.d (.sl 5 (List.map Jf a1)),.d (.sl 2 (List.map Jg a2)),kI a3,kI a4]],[],.ret (.tu [(true,[kI r.1,kS r.2.1,kB a0.Space,kB a0.First,kI a0.File,kI a0.At,kI a0.End,kI a0.Line,.d (.sl 1 (List.map dS a0.Hide)),.d (.sl 3 (List.map Jl a0.Calls)),kI r.2.2.1]),(false,[kB r.2.2.2])]) [[.d (.sl 5 (List.map Jf a1)),.d (.sl 2 (List.map Jg a2)),kI a3,kI a4]] []⟩
def Zi:GI→Prop:=Sg5 JF Zo
theorem JhY:∀ g,Zi g→Jm Tryz.prog 124 g:=by
 rintro _ ⟨a0,a1,a2,a3,a4,r,H,rfl⟩
 refine xGn mixed [(13,Jd5)] [] [] ⟨⟨JDG,JoK⟩,trivial⟩ trivial trivial Tryz.func124 _ ?_
 have G:=True.intro
 have Y:=xZ y_3 <| xZ y_9 <| xZ y_35 <| xZ y_37 <| xZ y_44 <| xZ Juh <| xZ Tryz.results124 <| xZ Jg.eq_1 <| xZ Jl.eq_1 <| xZ Ja.eq_1 <| xZ Jf.eq_1 <| Zo.eq_1
 dsimp only[Zo]
 simp only[JF]at H
 refine xS ?_
 refine xr0 ?_
 refine Jj ?_
 refine Jn X2 (fun s=>[(3,.c (.pt 2 0)),(4,.c (.pt 3 0))]) (fun s=>[[.d (.sl 5 (List.map Jf a1)),.d (.sl 2 (List.map Jg a2)),kI a3,kI a4],[kI s.1,kS s.2.1,kB a0.Space,kB a0.First,kI a0.File,kI a0.At,kI a0.End,kI a0.Line,.d (.sl 1 (List.map dS a0.Hide)),.d (.sl 3 (List.map Jl a0.Calls)),kI a0.Made],[kI 0,kS s.2.2,kB false,kB false,kI 0,kI 0,kI 0,kI 0,.sl 1 [] 0,.sl 3 [] 0,kI 0]]) [] r ?_ ?_
 ·refine xS ?_
  refine xr ?_
  refine xr ?_
  rcases xB Y G H with⟨p,H,F,G,q⟩|⟨p,H,F,G,q⟩
  ·refine xT ?_
   obtain⟨r1,hr1,H⟩:=Ji H
   have F:=xC Y (Jqr a0.Line r1 hr1)
   refine xR ?_
   exact Jb H (xK ⟨[1,2,3],[]⟩)
  refine xE ?_
  refine xr ?_
  rcases xB Y G H with⟨p,H,F,G,q⟩|⟨p,H,F,G,q⟩
  ·refine xT ?_
   refine xr0 ?_
   refine Jj ?_
   refine Jn XP (fun s=>[(3,.c (.pt 2 0)),(4,.c (.pt 3 0)),(6,cS s.1)]) (fun s=>[[.d (.sl 5 (List.map Jf a1)),.d (.sl 2 (List.map Jg a2)),kI a3,kI a4],[kI a0.Kind,kS a0.Text,kB a0.Space,kB a0.First,kI a0.File,kI a0.At,kI a0.End,kI a0.Line,.d (.sl 1 (List.map dS a0.Hide)),.d (.sl 3 (List.map Jl a0.Calls)),kI a0.Made],[kI 0,kS s.2,kB false,kB false,kI 0,kI 0,kI 0,kI 0,.sl 1 [] 0,.sl 3 [] 0,kI 0]]) [] r ?_ ?_
   ·refine Jn (XT a0 a2) (fun s=>[(0,.c (.pt 1 0)),(3,.c (.pt 2 0)),(4,.c (.pt 3 0)),(6,cS s.1),(31,cB s.2.1)]) (fun s=>[[.d (.sl 5 (List.map Jf a1)),.d (.sl 2 (List.map Jg a2)),kI a3,kI a4],[kI a0.Kind,kS a0.Text,kB a0.Space,kB a0.First,kI a0.File,kI a0.At,kI a0.End,kI a0.Line,.d (.sl 1 (List.map dS a0.Hide)),.d (.sl 3 (List.map Jl a0.Calls)),kI a0.Made],[kI 0,kS s.2.2,kB false,kB false,kI 0,kI 0,kI 0,kI 0,.sl 1 [] 0,.sl 3 [] 0,kI 0]]) [] r ?_ ?_
    ·rcases xB Y G H with⟨p,H,F,G,q⟩|⟨p,H,F,G,q⟩
     ·refine xR ?_
      exact Jb H (xK ⟨[1,2,3],[]⟩)
     refine xR ?_
     exact Jb H (xK ⟨[1,2,3],[]⟩)
    rintro ⟨x6,x7,x8⟩ H
    rw[XT]at H
    rcases xB Y G H with⟨p,H,F,G,q⟩|⟨p,H,F,G,q⟩
    ·refine xT ?_
     obtain⟨g,H⟩:=Jc H
     have F:=xZ Y (Jh Jg a2 a0.File.toNat default default (by omega))
     refine xR ?_
     exact Jb H (xK ⟨[1,2,3],[]⟩)
    refine xE ?_
    exact Jb H (xK ⟨[1,2,3],[]⟩)
   rintro ⟨x4,x5⟩ H
   rw[XP]at H
   obtain⟨g,H⟩:=Jc H
   obtain⟨g,H⟩:=Jc H
   refine xr ?_
   exact Jb H (xK ⟨[1,2,3],[]⟩)
  refine xE ?_
  replace H:=oI H
  refine xr ?_
  subst H
  refine xrD [] ?_
  exact xO ⟨[1],[]⟩
 rintro ⟨x1,x2,x3⟩ H
 rw[X2]at H
 refine xS ?_
 refine xr ?_
 replace H:=oI H
 refine xr ?_
 subst H
 refine xrD [] ?_
 exact xO ⟨[1],[]⟩
theorem JiD:Jd Tryz.prog 124∧(∀ g,Zi g→Jm Tryz.prog 124 g)∧(true=true→∀ g,Zi g→∃ val bs ts,g.out=.ret val bs ts) :=
 ⟨JA1,JhY,fun _=>by rintro _ ⟨_,_,_,_,_,_,_,rfl⟩; exact⟨_,_,_,rfl⟩⟩
noncomputable def XL(a0:List (List UInt8))(a1:List UInt8):(Int×Int)→Option YW
 | (x1,x2)=>if(ltI x2 x1)=true then if(0:Int)≤x2∧x2.toNat<a0.length then if(eqS a1 (a0.getD x2.toNat default))=true then inrO (some x2) else some (.inl (x1,IntKind.i64.wrap (x2+1))) else none else inrO (some (-1))
noncomputable def Ke(a0:List (List UInt8))(a1:List UInt8):Option Int :=
 Jv (XL a0 a1) ((a0.length:Int),0)
noncomputable def Ko:PF:=PF.of (E2 (dL 1 dS) dS) (fun a=>Ke a.1 a.2) dI
theorem XJ:JB Tryz.prog 129 Ko:=by
 refine xF mixed [] [] trivial trivial Tryz.func129 ?_
 rintro ⟨a0,a1⟩ out H
 have G:=True.intro
 have Y:=xZ y_9 <| xZ y_41 <| Tryz.results129
 simp only[Ke]at H
 refine xS ?_
 refine xr ?_
 refine xr ?_
 refine JG (XL a0 a1) (fun s=>[(0,.c (.d (.sl 1 (List.map dS a0)))),(1,cS a1),(7,cI s.1),(8,cI s.2)]) (fun s=>[]) [] H (xK ⟨[],[]⟩) ?_
 rintro n1 ⟨x1,x2⟩ o1 H hF1
 rw[XL]at H
 refine xS ?_
 refine xr ?_
 rcases xB Y G H with⟨p,H,F,G,q⟩|⟨p,H,F,G,q⟩
 ·refine xT ?_
  refine xr ?_
  obtain⟨g,H⟩:=Jc H
  have F:=xZ Y (Jh dS a0 x2.toNat default default (by omega))
  refine xR ?_
  rcases xB Y G H with⟨p,H,F,G,q⟩|⟨p,H,F,G,q⟩
  ·refine xT ?_
   replace H:=Jq H hF1
   replace H:=oI H
   refine xr ?_
   subst H
   exact xN
  refine xE ?_
  refine xr ?_
  exact Jw (JA H hF1) (xK ⟨[],[]⟩)
 replace H:=Jq H hF1
 refine xE ?_
 replace H:=oI H
 refine xr ?_
 subst H
 exact xN
theorem XS(a0:List (List UInt8))(a1:List UInt8)(r:Int)(H:Ke a0 a1=some r):PC Ko [(dL 1 dS) a0,dS a1] (dI r):=PF.c (a:=(a0,a1)) H
noncomputable def Kq(a0:List (List UInt8))(a1:List UInt8):Option Bool :=
 (Ke a0 a1).bind fun r1=>some (leI 0 r1)
noncomputable def VW:PF:=PF.of (E2 (dL 1 dS) dS) (fun a=>Kq a.1 a.2) dB
theorem Je7:JB Tryz.prog 108 VW:=by
 refine xF mixed [(129,Ko)] [] ⟨⟨JnA,XJ⟩,trivial⟩ trivial Tryz.func108 ?_
 rintro ⟨a0,a1⟩ out H
 have G:=True.intro
 have Y:=Tryz.results108
 simp only[Kq]at H
 refine xS ?_
 refine xr ?_
 obtain⟨r1,hr1,H⟩:=Ji H
 have F:=xC Y (XS a0 a1 r1 hr1)
 replace H:=oI H
 refine xR ?_
 subst H
 exact xN
theorem Jfk(a0:List (List UInt8))(a1:List UInt8)(r:Bool)(H:Kq a0 a1=some r):PC VW [(dL 1 dS) a0,dS a1] (dB r):=PF.c (a:=(a0,a1)) H
noncomputable def Jgn(a0:Macro)(a1:List UInt8):Option Bool :=
 some (eqS a0.Name a1)
def JeU(a0:Macro)(a1:List UInt8)(r:Bool):GI :=
 ⟨[.ag [kS a0.Name,kB a0.Call,.d (.sl 1 (List.map dS a0.Params)),kB a0.More,.d (.sl 11 (List.map Ja a0.Body))],.c (.pt 1 0)],[[kS a1]],[],.ret (cB r) [[kS a1]] []⟩
def JeG:GI→Prop:=Sg2 Jgn JeU
theorem Joc:∀ g,JeG g→Jm Tryz.prog 110 g:=by
 rintro _ ⟨a0,a1,r,H,rfl⟩
 refine xGn mixed [] [] [] trivial trivial trivial Tryz.func110 _ ?_
 have G:=True.intro
 have Y:=xZ y_9 <| xZ y_63 <| xZ Tryz.results110 <| xZ Jl.eq_1 <| xZ Ja.eq_1 <| xZ Jf.eq_1 <| JeU.eq_1
 dsimp only[JeU]
 simp only[Jgn]at H
 refine xS ?_
 refine xr ?_
 replace H:=oI H
 refine xr ?_
 subst H
 refine xrD [] ?_
 exact xO ⟨[1],[]⟩
theorem Jqk:Jd Tryz.prog 110∧(∀ g,JeG g→Jm Tryz.prog 110 g)∧(true=true→∀ g,JeG g→∃ val bs ts,g.out=.ret val bs ts) :=
 ⟨JCf,Joc,fun _=>by rintro _ ⟨_,_,_,_,rfl⟩; exact⟨_,_,_,rfl⟩⟩
noncomputable def J5(a0:List Macro)(a1:List UInt8):(Int×Int)→Option YW
 | (x1,x2)=>if(ltI x2 x1)=true then if(0:Int)≤x2∧x2.toNat<a0.length then(Jgn (a0.getD x2.toNat default) a1).bind fun r1=>if r1=true then inrO (some x2) else some (.inl (x1,IntKind.i64.wrap (x2+1))) else none else inrO (some (-1))
noncomputable def Kk(a0:List Macro)(a1:List UInt8):Option Int :=
 Jv (J5 a0 a1) ((a0.length:Int),0)
def Kb(a0:List Macro)(a1:List UInt8)(r:Int):GI :=
 ⟨[.c (.d (.sl 5 (List.map Jf a0))),.c (.clo 110 [1])],[[kS a1]],[],.ret (cI r) [[kS a1]] []⟩
def J9:GI→Prop:=Sg2 Kk Kb
theorem Jdg:∀ g,J9 g→Jm Tryz.prog 109 g:=by
 rintro _ ⟨a0,a1,r,H,rfl⟩
 refine xGn mixed [] [(110,true,JeG)] [] trivial ⟨Jqk,trivial⟩ trivial Tryz.func109 _ ?_
 have G:=True.intro
 have Y:=xZ y_28 <| xZ y_63 <| xZ Tryz.results109 <| xZ Jl.eq_1 <| xZ Ja.eq_1 <| xZ Jf.eq_1 <| xZ JeU.eq_1 <| Kb.eq_1
 dsimp only[Kb]
 simp only[Kk]at H
 refine xS ?_
 refine xr ?_
 refine xr ?_
 refine JG (J5 a0 a1) (fun s=>[(0,.c (.d (.sl 5 (List.map Jf a0)))),(1,.c (.clo 110 [1])),(7,cI s.1),(8,cI s.2)]) (fun s=>[[kS a1]]) [] H (xK ⟨[1],[]⟩) ?_
 rintro n1 ⟨x1,x2⟩ o1 H hF1
 rw[J5]at H
 refine xS ?_
 refine xr ?_
 rcases xB Y G H with⟨p,H,F,G,q⟩|⟨p,H,F,G,q⟩
 ·refine xT ?_
  refine xr ?_
  obtain⟨g,H⟩:=Jc H
  have F:=xZ Y (Jh Jf a0 x2.toNat default default (by omega))
  obtain⟨r1,hr1,H⟩:=Ji H
  have F:=F
  refine xQ ?_
  refine xs 5 ?_
  refine xc ⟨[1],[]⟩ (tabG 0 (cg2 hr1)) ?_
  refine xl ?_
  refine xS ?_
  rcases xB Y G H with⟨p,H,F,G,q⟩|⟨p,H,F,G,q⟩
  ·refine xT ?_
   replace H:=Jq H hF1
   replace H:=oI H
   refine xr ?_
   subst H
   refine xrD [] ?_
   exact xO ⟨[1],[]⟩
  refine xE ?_
  refine xr ?_
  exact Jw (JA H hF1) (xK ⟨[1],[]⟩)
 replace H:=Jq H hF1
 refine xE ?_
 replace H:=oI H
 refine xr ?_
 subst H
 refine xrD [] ?_
 exact xO ⟨[1],[]⟩
theorem JdF:Jd Tryz.prog 109∧(∀ g,J9 g→Jm Tryz.prog 109 g)∧(true=true→∀ g,J9 g→∃ val bs ts,g.out=.ret val bs ts) :=
 ⟨JBR,Jdg,fun _=>by rintro _ ⟨_,_,_,_,rfl⟩; exact⟨_,_,_,rfl⟩⟩
noncomputable def V9(a0:List Macro)(a1:List UInt8):Option Int :=
 (Kk a0 a1).bind fun r1=>some r1
noncomputable def JdN:PF:=PF.of (E2 (dL 5 Jf) dS) (fun a=>V9 a.1 a.2) dI
theorem Jhy:JB Tryz.prog 86 JdN:=by
 refine xF mixed [] [(109,true,J9)] trivial ⟨JdF,trivial⟩ Tryz.func86 ?_
 rintro ⟨a0,a1⟩ out H
 have G:=True.intro
 have Y:=xZ Tryz.results86 <| xZ Jl.eq_1 <| xZ Ja.eq_1 <| xZ Jf.eq_1 <| Kb.eq_1
 simp only[V9]at H
 refine xS ?_
 refine xr ?_
 obtain⟨r1,hr1,H⟩:=Ji H
 have F:=Y
 refine xQ ?_
 refine xs 2 ?_
 refine xc ⟨[1],[]⟩ (tabG 0 (cg2 hr1)) ?_
 refine xs 1 ?_
 refine xl ?_
 replace H:=oI H
 refine xS ?_
 subst H
 exact xN
theorem Jh4(a0:List Macro)(a1:List UInt8)(r:Int)(H:V9 a0 a1=some r):PC JdN [(dL 5 Jf) a0,dS a1] (dI r):=PF.c (a:=(a0,a1)) H
noncomputable def Jh7(a0:Macro)(a1:Int)(a2:List UInt8)(a3 a4:Bool)(a5 a6 a7 a8:Int)(a9:List (List UInt8))(a10:List Call)(a11:Int):Option Int :=
 if(!eqI a1 1)=true then some (-1) else(Ke a0.Params a2).bind fun r1=>some r1
def JeM(a0:Macro)(a1:Int)(a2:List UInt8)(a3 a4:Bool)(a5 a6 a7 a8:Int)(a9:List (List UInt8))(a10:List Call)(a11 r:Int):GI :=
 ⟨[.c (.pp (List.drop 0 (Jf a0).cells)),.c (.pt 1 0)],[[kI a1,kS a2,kB a3,kB a4,kI a5,kI a6,kI a7,kI a8,.d (.sl 1 (List.map dS a9)),.d (.sl 3 (List.map Jl a10)),kI a11]],[],.ret (cI r) [[kI a1,kS a2,kB a3,kB a4,kI a5,kI a6,kI a7,kI a8,.d (.sl 1 (List.map dS a9)),.d (.sl 3 (List.map Jl a10)),kI a11]] []⟩
def JeV:GI→Prop:=Sg12 Jh7 JeM
theorem Jn9:∀ g,JeV g→Jm Tryz.prog 163 g:=by
 rintro _ ⟨a0,a1,a2,a3,a4,a5,a6,a7,a8,a9,a10,a11,r,H,rfl⟩
 refine xGn mixed [(129,Ko)] [] [] ⟨⟨JnA,XJ⟩,trivial⟩ trivial trivial Tryz.func163 _ ?_
 have G:=True.intro
 have Y:=xZ y_3 <| xZ y_9 <| xZ y_41 <| xZ y_44 <| xZ y_63 <| xZ Tryz.results163 <| xZ Jl.eq_1 <| xZ Ja.eq_1 <| xZ Jf.eq_1 <| JeM.eq_1
 dsimp only[JeM]
 simp only[Jh7]at H
 refine xS ?_
 refine xr ?_
 refine xr ?_
 rcases xB Y G H with⟨p,H,F,G,q⟩|⟨p,H,F,G,q⟩
 ·refine xT ?_
  replace H:=oI H
  refine xr ?_
  subst H
  refine xrD [] ?_
  exact xO ⟨[1],[]⟩
 refine xE ?_
 obtain⟨r1,hr1,H⟩:=Ji H
 have F:=xC Y (XS a0.Params a2 r1 hr1)
 replace H:=oI H
 refine xR ?_
 subst H
 refine xrD [] ?_
 exact xO ⟨[1],[]⟩
theorem Jp1:Jd Tryz.prog 163∧(∀ g,JeV g→Jm Tryz.prog 163 g)∧(true=true→∀ g,JeV g→∃ val bs ts,g.out=.ret val bs ts) :=
 ⟨JuM,Jn9,fun _=>by rintro _ ⟨_,_,_,_,_,_,_,_,_,_,_,_,_,_,rfl⟩; exact⟨_,_,_,rfl⟩⟩
noncomputable def Jf9(a0:Macro)(a1:Token):Option Int :=
 if(!eqI a1.Kind 1)=true then some (-1) else(Ke a0.Params a1.Text).bind fun r1=>some r1
def JcL(a0:Macro)(a1:Token)(r:Int):GI :=
 ⟨[.c (.pp (List.drop 0 (Jf a0).cells)),.c (.pp (List.drop 0 (Ja a1).cells))],[],[],.ret (cI r) [] []⟩
def JcS:GI→Prop:=Sg2 Jf9 JcL
theorem JlR:∀ g,JcS g→Jm Tryz.prog 163 g:=by
 rintro _ ⟨a0,a1,r,H,rfl⟩
 refine xGn mixed [(129,Ko)] [] [] ⟨⟨JnA,XJ⟩,trivial⟩ trivial trivial Tryz.func163 _ ?_
 have G:=True.intro
 have Y:=xZ y_3 <| xZ y_9 <| xZ y_41 <| xZ y_44 <| xZ y_63 <| xZ Tryz.results163 <| xZ Jl.eq_1 <| xZ Ja.eq_1 <| xZ Jf.eq_1 <| JcL.eq_1
 dsimp only[JcL]
 simp only[Jf9]at H
 refine xS ?_
 refine xr ?_
 refine xr ?_
 rcases xB Y G H with⟨p,H,F,G,q⟩|⟨p,H,F,G,q⟩
 ·refine xT ?_
  replace H:=oI H
  refine xr ?_
  subst H
  refine xrD [] ?_
  exact xO ⟨[],[]⟩
 refine xE ?_
 obtain⟨r1,hr1,H⟩:=Ji H
 have F:=xC Y (XS a0.Params a1.Text r1 hr1)
 replace H:=oI H
 refine xR ?_
 subst H
 refine xrD [] ?_
 exact xO ⟨[],[]⟩
theorem Jnd:Jd Tryz.prog 163∧(∀ g,JcS g→Jm Tryz.prog 163 g)∧(true=true→∀ g,JcS g→∃ val bs ts,g.out=.ret val bs ts) :=
 ⟨JuM,JlR,fun _=>by rintro _ ⟨_,_,_,_,rfl⟩; exact⟨_,_,_,rfl⟩⟩
noncomputable def XZ(x3:Int):(Bool×Int×(List Token))→Option Yt
 | (x5,x6,x7)=>some (.inl (x5,x6,IntKind.i64.wrap (x3+1),x7))
noncomputable def VF(a0:Macro)(a1:List (List Token))(x2 x3:Int)(x4:List Token)(x9:Int)(x10:List UInt8)(x11 x12:Bool)(x13 x14 x15 x16:Int)(x17:List (List UInt8))(x18:List Call)(x19 r1:Int):(Bool×Bool)→Option Yt
 | (x22,x23)=>if x23=true then if(0:Int)≤r1∧r1.toNat<a1.length then none else none else if(leI 0 r1)=true then if(0:Int)≤r1∧r1.toNat<a1.length then none else none else if x22=true then if(0:Int)≤0∧0≤x2∧x2≤(x4.length:Int) then if(0:Int)≤x2∧x2≤(x4.length:Int)∧(x4.length:Int)≤(x4.length:Int) then if(0:Int)≤x3∧x3.toNat<a0.Body.length then none else none else none else none else if(x4.length + [(⟨x9,x10,x11,x12,x13,x14,x15,x16,x17,x18,x19⟩:Token)].length) * 120≤140737488355328 then XZ x3 (false,((x4.length:Nat):Int),x4++[(⟨x9,x10,x11,x12,x13,x14,x15,x16,x17,x18,x19⟩:Token)]) else none
noncomputable def VB(a0:Macro)(a1:List (List Token))(x1:Bool)(x2 x3:Int)(x4:List Token)(x8:Bool)(x9:Int)(x10:List UInt8)(x11 x12:Bool)(x13 x14 x15 x16:Int)(x17:List (List UInt8))(x18:List Call)(x19 r1:Int):Bool→Option Yt
 | x21=>if x21=true then if(0:Int)≤(IntKind.i64.wrap (x3+1))∧(IntKind.i64.wrap (x3+1)).toNat<a0.Body.length then(Jf9 a0 (a0.Body.getD ((IntKind.i64.wrap (x3+1)).toNat) default)).bind fun r2=>if(0:Int)≤r2∧r2.toNat<a1.length then none else none else none else if(leI 0 r1)=true then if x1=true then VF a0 a1 x2 x3 x4 x9 x10 x11 x12 x13 x14 x15 x16 x17 x18 x19 r1 (true,true) else VF a0 a1 x2 x3 x4 x9 x10 x11 x12 x13 x14 x15 x16 x17 x18 x19 r1 (false,x8) else VF a0 a1 x2 x3 x4 x9 x10 x11 x12 x13 x14 x15 x16 x17 x18 x19 r1 (x1,false)
noncomputable def XO(a0:Macro)(a1:List (List Token))(x1:Bool)(x2 x3:Int)(x4:List Token)(x8:Bool)(x9:Int)(x10:List UInt8)(x11 x12:Bool)(x13 x14 x15 x16:Int)(x17:List (List UInt8))(x18:List Call)(x19 r1:Int):Bool→Option Yt
 | x20=>if x20=true then XZ x3 (true,x2,x4) else if(eqS x10 [35])=true then if(eqI x9 5)=true then VB a0 a1 x1 x2 x3 x4 x8 x9 x10 x11 x12 x13 x14 x15 x16 x17 x18 x19 r1 a0.Call else VB a0 a1 x1 x2 x3 x4 x8 x9 x10 x11 x12 x13 x14 x15 x16 x17 x18 x19 r1 false else VB a0 a1 x1 x2 x3 x4 x8 x9 x10 x11 x12 x13 x14 x15 x16 x17 x18 x19 r1 false
noncomputable def VI(a0:Macro)(a1:List (List Token))(x1:Bool)(x2 x3:Int)(x4:List Token):Ye→Option Yt
 | (x8,x9,x10,x11,x12,x13,x14,x15,x16,x17,x18,x19)=>(Jh7 a0 x9 x10 x11 x12 x13 x14 x15 x16 x17 x18 x19).bind fun r1=>if(eqS x10 [35,35])=true then XO a0 a1 x1 x2 x3 x4 x8 x9 x10 x11 x12 x13 x14 x15 x16 x17 x18 x19 r1 (eqI x9 5) else XO a0 a1 x1 x2 x3 x4 x8 x9 x10 x11 x12 x13 x14 x15 x16 x17 x18 x19 r1 false
noncomputable def JbQ(a0:Macro)(a1:List (List Token)):(Bool×Int×Int×(List Token))→Option Yt
 | (x1,x2,x3,x4)=>if(ltI x3 (a0.Body.length:Int))=true then if(0:Int)≤x3∧x3.toNat<a0.Body.length then if(ltI (IntKind.i64.wrap (x3+1)) (a0.Body.length:Int))=true then if(0:Int)≤(IntKind.i64.wrap (x3+1))∧(IntKind.i64.wrap (x3+1)).toNat<a0.Body.length then if(eqS ((a0.Body.getD ((IntKind.i64.wrap (x3+1)).toNat) default).Text) [35,35])=true then if(0:Int)≤(IntKind.i64.wrap (x3+1))∧(IntKind.i64.wrap (x3+1)).toNat<a0.Body.length then VI a0 a1 x1 x2 x3 x4 (eqI ((a0.Body.getD ((IntKind.i64.wrap (x3+1)).toNat) default).Kind) 5,(a0.Body.getD x3.toNat default).Kind,(a0.Body.getD x3.toNat default).Text,(a0.Body.getD x3.toNat default).Space,(a0.Body.getD x3.toNat default).First,(a0.Body.getD x3.toNat default).File,(a0.Body.getD x3.toNat default).At,(a0.Body.getD x3.toNat default).End,(a0.Body.getD x3.toNat default).Line,(a0.Body.getD x3.toNat default).Hide,(a0.Body.getD x3.toNat default).Calls,(a0.Body.getD x3.toNat default).Made) else none else VI a0 a1 x1 x2 x3 x4 (false,(a0.Body.getD x3.toNat default).Kind,(a0.Body.getD x3.toNat default).Text,(a0.Body.getD x3.toNat default).Space,(a0.Body.getD x3.toNat default).First,(a0.Body.getD x3.toNat default).File,(a0.Body.getD x3.toNat default).At,(a0.Body.getD x3.toNat default).End,(a0.Body.getD x3.toNat default).Line,(a0.Body.getD x3.toNat default).Hide,(a0.Body.getD x3.toNat default).Calls,(a0.Body.getD x3.toNat default).Made) else none else VI a0 a1 x1 x2 x3 x4 (false,(a0.Body.getD x3.toNat default).Kind,(a0.Body.getD x3.toNat default).Text,(a0.Body.getD x3.toNat default).Space,(a0.Body.getD x3.toNat default).First,(a0.Body.getD x3.toNat default).File,(a0.Body.getD x3.toNat default).At,(a0.Body.getD x3.toNat default).End,(a0.Body.getD x3.toNat default).Line,(a0.Body.getD x3.toNat default).Hide,(a0.Body.getD x3.toNat default).Calls,(a0.Body.getD x3.toNat default).Made) else none else inrO (some x4)
noncomputable def Jc5(a0:Macro)(a1:List (List Token))(a2:List Macro)(a3:List Source)(a4 a5:Int):Option (List Token) :=
 Jv (JbQ a0 a1) (false,0,0,([]:List Token))
def Zg(a0:Macro)(a1:List (List Token))(a2:List Macro)(a3:List Source)(a4 a5:Int)(r:(List Token)):GI :=
 ⟨[.c (.pt 1 0),.c (.pp (List.drop 0 (Jf a0).cells)),.c (.d (.sl 1 (List.map (dL 11 Ja) a1)))],[[.d (.sl 5 (List.map Jf a2)),.d (.sl 2 (List.map Jg a3)),kI a4,kI a5]],[],.ret (.c (.os 2 11 0 r.length)) [[.d (.sl 5 (List.map Jf a2)),.d (.sl 2 (List.map Jg a3)),kI a4,kI a5],[.arr 11 (List.map Ja r)]] []⟩
def Zj:GI→Prop:=Sg6 Jc5 Zg
theorem Jin:∀ g,Zj g→Jm Tryz.prog 144 g:=by
 rintro _ ⟨a0,a1,a2,a3,a4,a5,r,H,rfl⟩
 refine xGnl mixed [16,19,21,23] [] [(163,true,JeV),(163,true,JcS)] [] trivial ⟨Jp1,Jnd,trivial⟩ trivial Tryz.func144 _ ?_
 have G:=True.intro
 have Y:=xZ y_3 <| xZ y_4 <| xZ y_9 <| xZ y_24 <| xZ y_44 <| xZ y_63 <| xZ y_81 <| xZ Tryz.results144 <| xZ Jg.eq_1 <| xZ Jl.eq_1 <| xZ Ja.eq_1 <| xZ Jf.eq_1 <| xZ JeM.eq_1 <| xZ JcL.eq_1 <| Zg.eq_1
 dsimp only[Zg]
 simp only[Jc5]at H
 refine xS ?_
 refine xr ?_
 refine xr ?_
 refine xr ?_
 refine xr ?_
 refine xr ?_
 refine JG (JbQ a0 a1) (fun s=>[(0,.c (.pt 1 0)),(1,.c (.pp (List.drop 0 (Jf a0).cells))),(2,.c (.d (.sl 1 (List.map (dL 11 Ja) a1)))),(7,.c (.os 2 11 0 s.2.2.2.length)),(8,cB s.1),(9,cI s.2.1),(10,cI s.2.2.1)]) (fun s=>[[.d (.sl 5 (List.map Jf a2)),.d (.sl 2 (List.map Jg a3)),kI a4,kI a5],[.arr 11 (List.map Ja s.2.2.2)]]) [] H (xK ⟨[1,0],[]⟩) ?_
 rintro n1 ⟨x1,x2,x3,x4⟩ o1 H hF1
 rw[JbQ]at H
 refine xS ?_
 refine xr ?_
 rcases xB Y G H with⟨p,H,F,G,q⟩|⟨p,H,F,G,q⟩
 ·refine xT0 ?_
  refine VA ?_
  refine Jj ?_
  refine Jn (XZ x3) (fun s=>[(0,.c (.pt 1 0)),(1,.c (.pp (List.drop 0 (Jf a0).cells))),(2,.c (.d (.sl 1 (List.map (dL 11 Ja) a1)))),(7,.c (.os 2 11 0 s.2.2.length)),(8,cB s.1),(9,cI s.2.1),(10,cI x3)]) (fun s=>[[.d (.sl 5 (List.map Jf a2)),.d (.sl 2 (List.map Jg a3)),kI a4,kI a5],[.arr 11 (List.map Ja s.2.2)]]) [] o1 ?_ ?_
  ·refine xS ?_
   obtain⟨g,H⟩:=Jc H
   have F:=xZ Y (Jh Ja a0.Body x3.toNat default default (by omega))
   refine xR0 ?_
   refine Jj ?_
   refine Jn (VI a0 a1 x1 x2 x3 x4) (fun s=>[(0,.c (.pt 1 0)),(1,.c (.pp (List.drop 0 (Jf a0).cells))),(2,.c (.d (.sl 1 (List.map (dL 11 Ja) a1)))),(7,.c (.os 2 11 0 x4.length)),(8,cB x1),(9,cI x2),(10,cI x3),(11,.c (.pt 3 0)),(12,cB s.1)]) (fun s=>[[.d (.sl 5 (List.map Jf a2)),.d (.sl 2 (List.map Jg a3)),kI a4,kI a5],[.arr 11 (List.map Ja x4)],[kI s.2.1,kS s.2.2.1,kB s.2.2.2.1,kB s.2.2.2.2.1,kI s.2.2.2.2.2.1,kI s.2.2.2.2.2.2.1,kI s.2.2.2.2.2.2.2.1,kI s.2.2.2.2.2.2.2.2.1,.d (.sl 1 (List.map dS s.2.2.2.2.2.2.2.2.2.1)),.d (.sl 3 (List.map Jl s.2.2.2.2.2.2.2.2.2.2.1)),kI s.2.2.2.2.2.2.2.2.2.2.2]]) [] o1 ?_ ?_
   ·rcases xB Y G H with⟨p,H,F,G,q⟩|⟨p,H,F,G,q⟩
    ·obtain⟨g,H⟩:=Jc H
     have F:=xZ F (Jh Ja a0.Body ((IntKind.i64.wrap (x3+1)).toNat) default default (by omega))
     rcases xB F G H with⟨p,H,F,G,q⟩|⟨p,H,F,G,q⟩
     ·obtain⟨g,H⟩:=Jc H
      have F:=xZ F (Jh Ja a0.Body ((IntKind.i64.wrap (x3+1)).toNat) default default (by omega))
      refine xR ?_
      exact Jb H (xK ⟨[1,2,3],[]⟩)
     refine xR ?_
     exact Jb H (xK ⟨[1,2,3],[]⟩)
    refine xR ?_
    exact Jb H (xK ⟨[1,2,3],[]⟩)
   rintro ⟨x8,x9,x10,x11,x12,x13,x14,x15,x16,x17,x18,x19⟩ H
   rw[VI]at H
   refine xS ?_
   refine xr ?_
   obtain⟨r1,hr1,H⟩:=Ji H
   have F:=Y
   refine xQ ?_
   refine xs 1 ?_
   refine xc ⟨[3],[]⟩ (tabG 0 (cg12 hr1)) ?_
   refine xs 1 ?_
   refine xl ?_
   refine  ?_
   refine Jj ?_
   refine Jag ?_
   refine Jn (XO a0 a1 x1 x2 x3 x4 x8 x9 x10 x11 x12 x13 x14 x15 x16 x17 x18 x19 r1) (fun s=>[(0,.c (.pt 1 0)),(1,.c (.pp (List.drop 0 (Jf a0).cells))),(2,.c (.d (.sl 1 (List.map (dL 11 Ja) a1)))),(7,.c (.os 2 11 0 x4.length)),(8,cB x1),(9,cI x2),(10,cI x3),(11,.c (.pt 3 0)),(12,cB x8),(14,cI r1),(67,cB s)]) (fun s=>[[.d (.sl 5 (List.map Jf a2)),.d (.sl 2 (List.map Jg a3)),kI a4,kI a5],[.arr 11 (List.map Ja x4)],[kI x9,kS x10,kB x11,kB x12,kI x13,kI x14,kI x15,kI x16,.d (.sl 1 (List.map dS x17)),.d (.sl 3 (List.map Jl x18)),kI x19]]) [] o1 ?_ ?_
   ·rcases xB Y G H with⟨p,H,F,G,q⟩|⟨p,H,F,G,q⟩
    ·refine xR ?_
     exact Jb H (xK ⟨[1,2,3],[]⟩)
    refine xR ?_
    exact Jb H (xK ⟨[1,2,3],[]⟩)
   rintro x20 H
   rw[XO]at H
   rcases xB Y G H with⟨p,H,F,G,q⟩|⟨p,H,F,G,q⟩
   ·refine xT ?_
    refine xr ?_
    exact Jb H (xK ⟨[1,2],[]⟩)
   refine xE0 ?_
   refine Jn (VB a0 a1 x1 x2 x3 x4 x8 x9 x10 x11 x12 x13 x14 x15 x16 x17 x18 x19 r1) (fun s=>[(0,.c (.pt 1 0)),(1,.c (.pp (List.drop 0 (Jf a0).cells))),(2,.c (.d (.sl 1 (List.map (dL 11 Ja) a1)))),(7,.c (.os 2 11 0 x4.length)),(8,cB x1),(9,cI x2),(10,cI x3),(11,.c (.pt 3 0)),(12,cB x8),(14,cI r1),(76,cB s)]) (fun s=>[[.d (.sl 5 (List.map Jf a2)),.d (.sl 2 (List.map Jg a3)),kI a4,kI a5],[.arr 11 (List.map Ja x4)],[kI x9,kS x10,kB x11,kB x12,kI x13,kI x14,kI x15,kI x16,.d (.sl 1 (List.map dS x17)),.d (.sl 3 (List.map Jl x18)),kI x19]]) [] o1 ?_ ?_
   ·rcases xB Y G H with⟨p,H,F,G,q⟩|⟨p,H,F,G,q⟩
    ·rcases xB F G H with⟨p,H,F,G,q⟩|⟨p,H,F,G,q⟩
     ·refine xR ?_
      exact Jb H (xK ⟨[1,2,3],[]⟩)
     refine xR ?_
     exact Jb H (xK ⟨[1,2,3],[]⟩)
    refine xR ?_
    exact Jb H (xK ⟨[1,2,3],[]⟩)
   rintro x21 H
   rw[VB]at H
   rcases xB Y G H with⟨p,H,F,G,q⟩|⟨p,H,F,G,q⟩
   ·refine xT ?_
    refine xr ?_
    obtain⟨g,H⟩:=Jc H
    have F:=xZ Y (Jh Ja a0.Body ((IntKind.i64.wrap (x3+1)).toNat) default default (by omega))
    obtain⟨r2,hr2,H⟩:=Ji H
    have F:=F
    obtain⟨g,H⟩:=Jc H
    have F:=xZ F (Jh (dL 11 Ja) a1 r2.toNat default default (by omega))
    cases H
   refine xE0 ?_
   refine Jn (VF a0 a1 x2 x3 x4 x9 x10 x11 x12 x13 x14 x15 x16 x17 x18 x19 r1) (fun s=>[(0,.c (.pt 1 0)),(1,.c (.pp (List.drop 0 (Jf a0).cells))),(2,.c (.d (.sl 1 (List.map (dL 11 Ja) a1)))),(7,.c (.os 2 11 0 x4.length)),(8,cB s.1),(9,cI x2),(10,cI x3),(11,.c (.pt 3 0)),(14,cI r1),(139,cB s.2)]) (fun s=>[[.d (.sl 5 (List.map Jf a2)),.d (.sl 2 (List.map Jg a3)),kI a4,kI a5],[.arr 11 (List.map Ja x4)],[kI x9,kS x10,kB x11,kB x12,kI x13,kI x14,kI x15,kI x16,.d (.sl 1 (List.map dS x17)),.d (.sl 3 (List.map Jl x18)),kI x19]]) [] o1 ?_ ?_
   ·rcases xB Y G H with⟨p,H,F,G,q⟩|⟨p,H,F,G,q⟩
    ·rcases xB F G H with⟨p,H,F,G,q⟩|⟨p,H,F,G,q⟩
     ·refine xR ?_
      exact Jb H (xK ⟨[1,2,3],[]⟩)
     refine xR ?_
     exact Jb H (xK ⟨[1,2,3],[]⟩)
    refine xR ?_
    exact Jb H (xK ⟨[1,2,3],[]⟩)
   rintro ⟨x22,x23⟩ H
   rw[VF]at H
   rcases xB Y G H with⟨p,H,F,G,q⟩|⟨p,H,F,G,q⟩
   ·refine xT ?_
    obtain⟨g,H⟩:=Jc H
    have F:=xZ Y (Jh (dL 11 Ja) a1 r1.toNat default default (by omega))
    cases H
   refine xE ?_
   refine xr ?_
   rcases xB Y G H with⟨p,H,F,G,q⟩|⟨p,H,F,G,q⟩
   ·refine xT ?_
    obtain⟨g,H⟩:=Jc H
    have F:=xZ Y (Jh (dL 11 Ja) a1 r1.toNat default default (by omega))
    cases H
   refine xE ?_
   refine xr ?_
   refine xr ?_
   rcases xB Y G H with⟨p,H,F,G,q⟩|⟨p,H,F,G,q⟩
   ·refine xT ?_
    refine xfz 2 11 (List.map Ja x4) [] ?_
    obtain⟨g,H⟩:=Jc H
    obtain⟨g,H⟩:=Jc H
    obtain⟨g,H⟩:=Jc H
    have F:=xZ Y (Jh Ja a0.Body x3.toNat default default (by omega))
    cases H
   refine xE ?_
   refine xr ?_
   obtain⟨g,H⟩:=Jc H
   have F:=xZ Y (JH KL [(⟨x9,x10,x11,x12,x13,x14,x15,x16,x17,x18,x19⟩:Token)])
   have L:[(⟨x9,x10,x11,x12,x13,x14,x15,x16,x17,x18,x19⟩:Token)].length=1:=rfl
   refine xR ?_
   refine xr ?_
   exact Jb H (xK ⟨[1,4],[]⟩)
  rintro ⟨x5,x6,x7⟩ H
  rw[XZ]at H
  refine xr ?_
  exact Jw (JA H hF1) (xK ⟨[1,2],[]⟩)
 replace H:=Jq H hF1
 refine xE ?_
 replace H:=oI H
 refine xr ?_
 subst H
 refine xrD [] ?_
 exact xO ⟨[1,2],[]⟩
theorem Jb0:Jd Tryz.prog 144∧(∀ g,Zj g→Jm Tryz.prog 144 g)∧(true=true→∀ g,Zj g→∃ val bs ts,g.out=.ret val bs ts) :=
 ⟨JCg,Jin,fun _=>by rintro _ ⟨_,_,_,_,_,_,_,_,rfl⟩; exact⟨_,_,_,rfl⟩⟩
noncomputable def Xj(a0:List YV):YF→Option (YF ⊕ YV)
 | (x4,x5,x6)=>if(ltI x5 x4)=true then if(0:Int)≤x5∧x5.toNat<a0.length then if(x6.length+(a0.getD x5.toNat default).length) * 16≤140737488355328 then some (.inl (x4,IntKind.i64.wrap (x5+1),x6++(a0.getD x5.toNat default))) else none else none else inrO (some x6)
noncomputable def Xg(a0:List YV):YZ→Option (YZ ⊕ YV)
 | (x1,x2,x3)=>if(ltI x3 x2)=true then if(0:Int)≤x3∧x3.toNat<a0.length then if(ltI (IntKind.i64.wrap (x1+((a0.getD x3.toNat default).length:Int))) 0)=true then none else some (.inl (IntKind.i64.wrap (x1+((a0.getD x3.toNat default).length:Int)),x2,IntKind.i64.wrap (x3+1))) else none else inrO ((Z2 x1).bind fun r1=>Jv (Xj a0) ((a0.length:Int),0,([]:List (List UInt8))))
noncomputable def Zc(a0:List YV):Option YV :=
 Jv (Xg a0) (0,(a0.length:Int),0)
def Vf(a0:List YV)(r:YV):GI :=
 ⟨[.c (.d (.sl 1 (List.map (dL 1 dS) a0)))],[],[],.ret (.c (.os 1 1 0 r.length)) [[.arr 1 (List.map dS r)]] []⟩
def Vg:GI→Prop:=Sg1 Zc Vf
theorem JfE:∀ g,Vg g→Jm Tryz.prog 159 g:=by
 rintro _ ⟨a0,r,H,rfl⟩
 refine xGn mixed [] [(174,true,Vs)] [] trivial ⟨JgI,trivial⟩ trivial Tryz.func159 _ ?_
 have G:=True.intro
 have Y:=xZ y_9 <| xZ y_41 <| xZ JCA <| xZ Tryz.results159 <| xZ Za.eq_1 <| Vf.eq_1
 dsimp only[Vf]
 simp only[Zc]at H
 refine xS ?_
 refine xr ?_
 refine xr ?_
 refine xr ?_
 refine JG (Xg a0) (fun s=>[(0,.c (.d (.sl 1 (List.map (dL 1 dS) a0)))),(3,cI s.1),(9,.c (.d (.sl 1 (List.map (dL 1 dS) a0)))),(10,cI s.2.1),(11,cI s.2.2)]) (fun s=>[]) [] H (xK ⟨[],[]⟩) ?_
 rintro n1 ⟨x1,x2,x3⟩ o1 H hF1
 rw[Xg]at H
 refine xS ?_
 refine xr ?_
 rcases xB Y G H with⟨p,H,F,G,q⟩|⟨p,H,F,G,q⟩
 ·refine xT ?_
  obtain⟨g,H⟩:=Jc H
  have F:=xZ Y (Jh (dL 1 dS) a0 x3.toNat default default (by omega))
  refine xR ?_
  refine xr ?_
  refine xr ?_
  rcases xB Y G H with⟨p,H,F,G,q⟩|⟨p,H,F,G,q⟩
  ·refine xT ?_
   cases H
  refine xE ?_
  refine xr ?_
  exact Jw (JA H hF1) (xK ⟨[],[]⟩)
 replace H:=Jq H hF1
 refine xE ?_
 obtain⟨r1,hr1,H⟩:=Ji H
 have F:=Y
 refine xQ ?_
 refine xs 1 ?_
 refine xc ⟨[],[]⟩ (tabG 0 (cg1 hr1)) ?_
 refine xs 1 ?_
 refine xl ?_
 refine xS ?_
 refine xr ?_
 refine JG (Xj a0) (fun s=>[(6,.c (.os 1 1 0 s.2.2.length)),(25,.c (.d (.sl 1 (List.map (dL 1 dS) a0)))),(26,cI s.1),(27,cI s.2.1)]) (fun s=>[[.arr 1 (List.map dS s.2.2)]]) [] H (xK ⟨[1],[]⟩) ?_
 rintro n2 ⟨x4,x5,x6⟩ o2 H hF2
 rw[Xj]at H
 refine xS ?_
 refine xr ?_
 rcases xB Y G H with⟨p,H,F,G,q⟩|⟨p,H,F,G,q⟩
 ·refine xT ?_
  obtain⟨g,H⟩:=Jc H
  have F:=xZ Y (Jh (dL 1 dS) a0 x5.toNat default default (by omega))
  refine xR ?_
  obtain⟨g,H⟩:=Jc H
  have F:=xZ Y (JH Jjg (a0.getD x5.toNat default))
  have A:=JH Jjg (a0.getD x5.toNat default)
  refine xR ?_
  refine xr ?_
  exact Jw (JA H hF2) (xK ⟨[2],[]⟩)
 replace H:=Jq H hF2
 refine xE ?_
 replace H:=oI H
 refine xr ?_
 subst H
 refine xrD [] ?_
 exact xO ⟨[1],[]⟩
theorem JfW:Jd Tryz.prog 159∧(∀ g,Vg g→Jm Tryz.prog 159 g)∧(true=true→∀ g,Vg g→∃ val bs ts,g.out=.ret val bs ts) :=
 ⟨JBf,JfE,fun _=>by rintro _ ⟨_,_,_,rfl⟩; exact⟨_,_,_,rfl⟩⟩
noncomputable def VH(a0:List (List Call)):((List Call)×Int×Int)→Option (((List Call)×Int×Int) ⊕ (List Call))
 | (x4,x5,x6)=>if(ltI x6 x5)=true then if(0:Int)≤x6∧x6.toNat<a0.length then if(x4.length+(a0.getD x6.toNat default).length) * 32≤140737488355328 then some (.inl (x4++(a0.getD x6.toNat default),x5,IntKind.i64.wrap (x6+1))) else none else none else inrO (some x4)
noncomputable def VD(a0:List (List Call)):YZ→Option (YZ ⊕ (List Call))
 | (x1,x2,x3)=>if(ltI x3 x2)=true then if(0:Int)≤x3∧x3.toNat<a0.length then if(ltI (IntKind.i64.wrap (x1+((a0.getD x3.toNat default).length:Int))) 0)=true then none else some (.inl (IntKind.i64.wrap (x1+((a0.getD x3.toNat default).length:Int)),x2,IntKind.i64.wrap (x3+1))) else none else inrO ((XI x1).bind fun r1=>Jv (VH a0) (([]:List Call),(a0.length:Int),0))
noncomputable def V4(a0:List (List Call)):Option (List Call) :=
 Jv (VD a0) (0,(a0.length:Int),0)
def KF(a0:List (List Call))(r:(List Call)):GI :=
 ⟨[.c (.d (.sl 1 (List.map (dL 3 Jl) a0)))],[],[],.ret (.c (.sl 3 (List.map Jl r) 1)) [] [198]⟩
def KI:GI→Prop:=Sg1 V4 KF
theorem Jev:∀ g,KI g→Jm Tryz.prog 162 g:=by
 rintro _ ⟨a0,r,H,rfl⟩
 refine xGn mixed [] [(177,true,KX)] [] trivial ⟨Jfe,trivial⟩ trivial Tryz.func162 _ ?_
 have G:=True.intro
 have Y:=xZ y_9 <| xZ y_42 <| xZ Jug <| xZ JCm <| xZ Tryz.results162 <| xZ Jl.eq_1 <| xZ V5.eq_1 <| KF.eq_1
 dsimp only[KF]
 simp only[V4]at H
 refine xS ?_
 refine xr ?_
 refine xr ?_
 refine xr ?_
 refine JG (VD a0) (fun s=>[(0,.c (.d (.sl 1 (List.map (dL 3 Jl) a0)))),(3,cI s.1),(9,.c (.d (.sl 1 (List.map (dL 3 Jl) a0)))),(10,cI s.2.1),(11,cI s.2.2)]) (fun s=>[]) [] H (xK ⟨[],[]⟩) ?_
 rintro n1 ⟨x1,x2,x3⟩ o1 H hF1
 rw[VD]at H
 refine xS ?_
 refine xr ?_
 rcases xB Y G H with⟨p,H,F,G,q⟩|⟨p,H,F,G,q⟩
 ·refine xT ?_
  obtain⟨g,H⟩:=Jc H
  have F:=xZ Y (Jh (dL 3 Jl) a0 x3.toNat default default (by omega))
  refine xR ?_
  refine xr ?_
  refine xr ?_
  rcases xB Y G H with⟨p,H,F,G,q⟩|⟨p,H,F,G,q⟩
  ·refine xT ?_
   cases H
  refine xE ?_
  refine xr ?_
  exact Jw (JA H hF1) (xK ⟨[],[]⟩)
 replace H:=Jq H hF1
 refine xE ?_
 obtain⟨r1,hr1,H⟩:=Ji H
 have F:=Y
 refine xQ ?_
 refine xs 1 ?_
 refine xc ⟨[],[]⟩ (tabG 0 (cg1 hr1)) ?_
 refine xs 1 ?_
 refine xl ?_
 refine xS ?_
 refine xr ?_
 refine JG (VH a0) (fun s=>[(6,.c (.sl 3 (List.map Jl s.1) 1)),(25,.c (.d (.sl 1 (List.map (dL 3 Jl) a0)))),(26,cI s.2.1),(27,cI s.2.2)]) (fun s=>[]) [198] H (xK ⟨[],[1]⟩) ?_
 rintro n2 ⟨x4,x5,x6⟩ o2 H hF2
 rw[VH]at H
 refine xS ?_
 refine xr ?_
 rcases xB Y G H with⟨p,H,F,G,q⟩|⟨p,H,F,G,q⟩
 ·refine xT ?_
  obtain⟨g,H⟩:=Jc H
  have F:=xZ Y (Jh (dL 3 Jl) a0 x6.toNat default default (by omega))
  refine xR ?_
  obtain⟨g,H⟩:=Jc H
  have F:=xZ Y (JH Jj4 (a0.getD x6.toNat default))
  have A:=JH Jj4 (a0.getD x6.toNat default)
  refine xR ?_
  refine xr ?_
  exact Jw (JA H hF2) (xK ⟨[],[2]⟩)
 replace H:=Jq H hF2
 refine xE ?_
 replace H:=oI H
 refine xr ?_
 subst H
 refine xrD [] ?_
 exact xO ⟨[],[1]⟩
theorem JeL:Jd Tryz.prog 162∧(∀ g,KI g→Jm Tryz.prog 162 g)∧(true=true→∀ g,KI g→∃ val bs ts,g.out=.ret val bs ts) :=
 ⟨JBt,Jev,fun _=>by rintro _ ⟨_,_,_,rfl⟩; exact⟨_,_,_,rfl⟩⟩
noncomputable def JgV(a0:List (List UInt8))(a1:List Call):(Int×Int×(List Token))→Option ((Int×Int×(List Token)) ⊕ (List Token))
 | (x1,x2,x3)=>if(ltI x2 x1)=true then if(0:Int)≤x2∧x2.toNat<x3.length then if x2.toNat<x3.length then(Zc [(x3.getD x2.toNat default).Hide,a0]).bind fun r1=>(Z7 r1).bind fun r2=>(XN (Jgj r1)).bind fun r3=>if(0:Int)≤x2∧x2.toNat<x3.length then if x2.toNat<x3.length then if(0:Int)≤x2∧x2.toNat<x3.length then if x2.toNat<x3.length then(V4 [a1,(x3.getD x2.toNat default).Calls]).bind fun r4=>if(0:Int)≤x2∧x2.toNat<x3.length then if x2.toNat<x3.length then some (.inl (x1,IntKind.i64.wrap (x2+1),List.set x3 x2.toNat (⟨(x3.getD x2.toNat default).Kind,(x3.getD x2.toNat default).Text,(x3.getD x2.toNat default).Space,(x3.getD x2.toNat default).First,(x3.getD x2.toNat default).File,(x3.getD x2.toNat default).At,(x3.getD x2.toNat default).End,(x3.getD x2.toNat default).Line,J0 (Jgj r1),r4,(x3.getD x2.toNat default).Made⟩:Token))) else none else none else none else none else none else none else none else none else inrO (some x3)
noncomputable def Ji7(a0:List (List UInt8))(a1:List Call)(a2:List Token):Option (List Token) :=
 Jv (JgV a0 a1) (((a2.length:Nat):Int),0,a2)
def Jfu(a0:List (List UInt8))(a1:List Call)(a2:List Token)(r:(List Token)):GI :=
 ⟨[.c (.os 1 11 0 a2.length),.c (.d (.sl 1 (List.map dS a0))),.c (.d (.sl 3 (List.map Jl a1)))],[[.arr 11 (List.map Ja a2)]],[],.ret (.c (.os 1 11 0 r.length)) [[.arr 11 (List.map Ja r)]] []⟩
def Jft:GI→Prop:=Sg3 Ji7 Jfu
theorem Jp0:∀ g,Jft g→Jm Tryz.prog 143 g:=by
 rintro _ ⟨a0,a1,a2,r,H,rfl⟩
 refine xGn mixed [] [(159,true,Vg),(160,true,Vt),(161,true,Vd),(162,true,KI)] [] trivial ⟨JfW,JgJ,JfF,JeL,trivial⟩ trivial Tryz.func143 _ ?_
 have G:=True.intro
 have Y:=xZ y_24 <| xZ y_41 <| xZ y_42 <| xZ y_44 <| xZ JCA <| xZ JCm <| xZ Tryz.results143 <| xZ Jl.eq_1 <| xZ Ja.eq_1 <| xZ Vf.eq_1 <| xZ Zb.eq_1 <| xZ Xn.eq_1 <| xZ KF.eq_1 <| Jfu.eq_1
 dsimp only[Jfu]
 simp only[Ji7]at H
 refine xS ?_
 refine xr ?_
 refine xr ?_
 refine JG (JgV a0 a1) (fun s=>[(0,.c (.os 1 11 0 s.2.2.length)),(1,.c (.d (.sl 1 (List.map dS a0)))),(2,.c (.d (.sl 3 (List.map Jl a1)))),(10,cI s.1),(11,cI s.2.1)]) (fun s=>[[.arr 11 (List.map Ja s.2.2)]]) [] H (xK ⟨[1],[]⟩) ?_
 rintro n1 ⟨x1,x2,x3⟩ o1 H hF1
 rw[JgV]at H
 refine xS ?_
 refine xr ?_
 rcases xB Y G H with⟨p,H,F,G,q⟩|⟨p,H,F,G,q⟩
 ·refine xT ?_
  refine xr ?_
  obtain⟨g,H⟩:=Jc H
  obtain⟨g,H⟩:=Jc H
  have F:=xZ Y (Jh Ja x3 x2.toNat default default (by omega))
  obtain⟨r1,hr1,H⟩:=Ji H
  have F:=F
  refine xQ ?_
  refine xs 7 ?_
  refine xc ⟨[],[]⟩ (tabG 0 (cg1 hr1)) ?_
  refine xs 1 ?_
  refine xl ?_
  refine xS ?_
  obtain⟨r2,hr2,H⟩:=Ji H
  have F:=Y
  refine xQ ?_
  refine xs 1 ?_
  refine xc ⟨[2],[]⟩ (tabG 1 (cg1 hr2)) ?_
  refine xl ?_
  refine xS ?_
  obtain⟨r3,hr3,H⟩:=Ji H
  have F:=xZ Y Jlp
  obtain⟨g,H⟩:=Jc H
  obtain⟨g,H⟩:=Jc H
  have F:=xZ F (Jh Ja x3 x2.toNat default default (by omega))
  have F:=xZ F (JeH Ja x3 x2.toNat)
  have F:=xZ F (JeX Ja x3 (show x2.toNat<x3.length by omega))
  have F:=xZ F (JeY Ja x3 x2.toNat)
  refine xQ ?_
  refine xs 3 ?_
  refine xc ⟨[2],[]⟩ (tabG 2 (cg1 hr3)) ?_
  refine xs 3 ?_
  refine xl ?_
  refine xS ?_
  obtain⟨g,H⟩:=Jc H
  obtain⟨g,H⟩:=Jc H
  have F:=xZ Y (Jh Ja x3 x2.toNat default default (by omega))
  have F:=xZ F (JeH Ja x3 x2.toNat)
  have F:=xZ F (JeX Ja x3 (show x2.toNat<x3.length by omega))
  have F:=xZ F (JeY Ja x3 x2.toNat)
  obtain⟨r4,hr4,H⟩:=Ji H
  have F:=F
  obtain⟨g,H⟩:=Jc H
  obtain⟨g,H⟩:=Jc H
  have F:=xZ F (Jh Ja x3 x2.toNat default default (by omega))
  have F:=xZ F (JeH Ja x3 x2.toNat)
  have F:=xZ F (JeX Ja x3 (show x2.toNat<x3.length by omega))
  have F:=xZ F (JeY Ja x3 x2.toNat)
  refine xQ ?_
  refine xs 9 ?_
  refine xc ⟨[],[]⟩ (tabG 3 (cg1 hr4)) ?_
  refine xs 3 ?_
  refine xl ?_
  refine xS ?_
  refine xr ?_
  exact Jw (JA H hF1) (xK ⟨[1],[]⟩)
 replace H:=Jq H hF1
 refine xE ?_
 replace H:=oI H
 refine xr ?_
 subst H
 refine xrD [] ?_
 exact xO ⟨[1],[]⟩
theorem JhA:Jd Tryz.prog 143∧(∀ g,Jft g→Jm Tryz.prog 143 g)∧(true=true→∀ g,Jft g→∃ val bs ts,g.out=.ret val bs ts) :=
 ⟨JBl,Jp0,fun _=>by rintro _ ⟨_,_,_,_,_,rfl⟩; exact⟨_,_,_,rfl⟩⟩
noncomputable def Jdp:(List Token)→Option (List Token)
 | x1=>some x1
noncomputable def Jhu(a0:Bool)(a1:List Token):Option (List Token) :=
 if(ltI 0 ((a1.length:Nat):Int))=true then if 0<a1.length then if 0<a1.length then Jdp (List.set a1 0 (⟨(a1.getD 0 default).Kind,(a1.getD 0 default).Text,a0,(a1.getD 0 default).First,(a1.getD 0 default).File,(a1.getD 0 default).At,(a1.getD 0 default).End,(a1.getD 0 default).Line,(a1.getD 0 default).Hide,(a1.getD 0 default).Calls,(a1.getD 0 default).Made⟩:Token)) else none else none else Jdp a1
def Jd7(a0:Bool)(a1:List Token)(r:(List Token)):GI :=
 ⟨[.c (.os 1 11 0 a1.length),cB a0],[[.arr 11 (List.map Ja a1)]],[],.ret (.c (.os 1 11 0 r.length)) [[.arr 11 (List.map Ja r)]] []⟩
def Jd4:GI→Prop:=Sg2 Jhu Jd7
theorem JnO:∀ g,Jd4 g→Jm Tryz.prog 146 g:=by
 rintro _ ⟨a0,a1,r,H,rfl⟩
 refine xGn mixed [] [] [] trivial trivial trivial Tryz.func146 _ ?_
 have G:=True.intro
 have Y:=xZ y_4 <| xZ y_24 <| xZ y_44 <| xZ Tryz.results146 <| xZ Jl.eq_1 <| xZ Ja.eq_1 <| Jd7.eq_1
 dsimp only[Jd7]
 simp only[Jhu]at H
 refine xS ?_
 refine xr0 ?_
 refine Jj ?_
 refine Jn Jdp (fun s=>[(0,.c (.os 1 11 0 s.length))]) (fun s=>[[.arr 11 (List.map Ja s)]]) [] r ?_ ?_
 ·refine xS ?_
  refine xr ?_
  rcases xB Y G H with⟨p,H,F,G,q⟩|⟨p,H,F,G,q⟩
  ·refine xT ?_
   obtain⟨g,H⟩:=Jc H
   obtain⟨g,H⟩:=Jc H
   have F:=xZ Y (Jh Ja a1 0 default default (by omega))
   have F:=xZ F (JeH Ja a1 0)
   have F:=xZ F (JeX Ja a1 (show 0<a1.length by omega))
   have F:=xZ F (JeY Ja a1 0)
   refine xR ?_
   exact Jb H (xK ⟨[1],[]⟩)
  refine xE ?_
  exact Jb H (xK ⟨[1],[]⟩)
 rintro x1 H
 rw[Jdp]at H
 refine xS ?_
 replace H:=oI H
 refine xr ?_
 subst H
 refine xrD [] ?_
 exact xO ⟨[1],[]⟩
theorem Jgi:Jd Tryz.prog 146∧(∀ g,Jd4 g→Jm Tryz.prog 146 g)∧(true=true→∀ g,Jd4 g→∃ val bs ts,g.out=.ret val bs ts) :=
 ⟨JAW,JnO,fun _=>by rintro _ ⟨_,_,_,_,rfl⟩; exact⟨_,_,_,rfl⟩⟩
noncomputable def Zm(a0:Macro)(a1:Token)(a2:List Macro)(a3:List Source)(a4 a5:Int):(YV×Nat×Int×Int)→Option YS
 | (x1,x2,x3,x4)=>(Jc5 a0 ([]:List (List Token)) a2 a3 a4 a5).bind fun r2=>(Xk a1.Calls).bind fun r3=>if(a1.Calls.length + [(⟨a0.Name,x3,x4⟩:Call)].length) * 32≤140737488355328 then(Ji7 x1 (a1.Calls++[(⟨a0.Name,x3,x4⟩:Call)]) r2).bind fun r4=>(Jhu a1.Space r4).bind fun r5=>some (x2,r5) else none
noncomputable def Jdt(a0:Macro)(a1:Token)(a2:List Macro)(a3:List Source)(a4 a5:Int)(a6:Nat)(a7:List Token):Option YS :=
 (ZG a1.Hide).bind fun r1=>if(a1.Hide.length + [a0.Name].length) * 16≤140737488355328 then if a0.Call=true then none else if(!eqI a1.Made 0)=true then Zm a0 a1 a2 a3 a4 a5 (a1.Hide++[a0.Name],a6,(-1),0) else Zm a0 a1 a2 a3 a4 a5 (a1.Hide++[a0.Name],a6,a1.File,a1.At) else none
def ZO(a0:Macro)(a1:Token)(a2:List Macro)(a3:List Source)(a4 a5:Int)(a6:Nat)(a7:List Token)(r:YS):GI :=
 ⟨[.c (.pt 1 0),.c (.pp (List.drop 0 (Jf a0).cells)),.ag [kI a1.Kind,kS a1.Text,kB a1.Space,kB a1.First,kI a1.File,kI a1.At,kI a1.End,kI a1.Line,.d (.sl 1 (List.map dS a1.Hide)),.d (.sl 3 (List.map Jl a1.Calls)),kI a1.Made],.c (.pt 2 0)],[[.d (.sl 5 (List.map Jf a2)),.d (.sl 2 (List.map Jg a3)),kI a4,kI a5],[.os 3 11 0 a6],[.arr 11 (List.map Ja a7)]],[],.ret (.c (.os 4 11 0 r.2.length)) [[.d (.sl 5 (List.map Jf a2)),.d (.sl 2 (List.map Jg a3)),kI a4,kI a5],[.os 3 11 0 r.1],[.arr 11 (List.map Ja a7)],[.arr 11 (List.map Ja r.2)]] []⟩
def ZM:GI→Prop:=Sg8 Jdt ZO
theorem JiB:∀ g,ZM g→Jm Tryz.prog 126 g:=by
 rintro _ ⟨a0,a1,a2,a3,a4,a5,a6,a7,r,H,rfl⟩
 refine xGnl mixed [1,27] [] [(138,true,Vm),(144,true,Zj),(145,true,KP),(143,true,Jft),(146,true,Jd4)] [] trivial ⟨XX,Jb0,VY,JhA,Jgi,trivial⟩ trivial Tryz.func126 _ ?_
 have G:=True.intro
 have Y:=xZ y_3 <| xZ y_4 <| xZ y_9 <| xZ y_24 <| xZ y_41 <| xZ y_42 <| xZ y_44 <| xZ y_63 <| xZ y_81 <| xZ JpQ <| xZ Jug <| xZ Tryz.results126 <| xZ Jg.eq_1 <| xZ Jl.eq_1 <| xZ Ja.eq_1 <| xZ Jf.eq_1 <| xZ Jb8.eq_1 <| xZ Zg.eq_1 <| xZ JaK.eq_1 <| xZ Jfu.eq_1 <| xZ Jd7.eq_1 <| ZO.eq_1
 dsimp only[ZO]
 simp only[Jdt]at H
 refine xS ?_
 refine xr ?_
 obtain⟨r1,hr1,H⟩:=Ji H
 have F:=Y
 obtain⟨g,H⟩:=Jc H
 have F:=xZ F (JH Jjg [a0.Name])
 refine xP [0,1,3,4,5,6,7,2,8,9] [27] ⟨XX,Jb0,VY,JhA,Jgi,trivial⟩ ?_
 refine xsX 5 ?_
 refine xaX ?_
 refine xsX 1 ?_
 refine xcX ⟨[],[]⟩ (tabG 0 (cg1 hr1)) ?_
 refine xbX ?_
 refine xsX 1 ?_
 refine xlX ?_
 refine xS ?_
 refine xr ?_
 refine xr ?_
 rcases xB Y G H with⟨p,H,F,G,q⟩|⟨p,H,F,G,q⟩
 ·refine xT ?_
  cases H
 refine xE ?_
 refine xr0 ?_
 refine Jj ?_
 refine Jn (Zm a0 a1 a2 a3 a4 a5) (fun s=>[(0,.c (.pt 1 0)),(1,.c (.pp (List.drop 0 (Jf a0).cells))),(6,.c (.pt 4 0)),(9,.c (.sl 1 (List.map dS s.1) 6)),(10,.c (.sl 1 [] 0)),(19,.c (.pt 5 0))]) (fun s=>[[.d (.sl 5 (List.map Jf a2)),.d (.sl 2 (List.map Jg a3)),kI a4,kI a5],[.os 3 11 0 s.2.1],[.arr 11 (List.map Ja a7)],[kI a1.Kind,kS a1.Text,kB a1.Space,kB a1.First,kI a1.File,kI a1.At,kI a1.End,kI a1.Line,.d (.sl 1 (List.map dS a1.Hide)),.d (.sl 3 (List.map Jl a1.Calls)),kI a1.Made],[kS a0.Name,kI s.2.2.1,kI s.2.2.2]]) [9] r ?_ ?_
 ·refine xS ?_
  refine xr ?_
  rcases xB Y G H with⟨p,H,F,G,q⟩|⟨p,H,F,G,q⟩
  ·refine xT ?_
   refine xr ?_
   exact Jb H (xK ⟨[1,2,3,4,7],[6]⟩)
  refine xE ?_
  exact Jb H (xK ⟨[1,2,3,4,7],[6]⟩)
 rintro ⟨x1,x2,x3,x4⟩ H
 rw[Zm]at H
 refine xS ?_
 obtain⟨r2,hr2,H⟩:=Ji H
 have F:=Y
 obtain⟨r3,hr3,H⟩:=Ji H
 have F:=F
 obtain⟨g,H⟩:=Jc H
 have F:=xZ F (JH Jj4 [(⟨a0.Name,x3,x4⟩:Call)])
 obtain⟨r4,hr4,H⟩:=Ji H
 have F:=F
 refine xP [0,1,2,4,5,6,8,9,3,7,10,11,12] [109,111] ⟨XX,Jb0,VY,JhA,Jgi,trivial⟩ ?_
 refine xsX 5 ?_
 refine xaX ?_
 refine xaX ?_
 refine xsX 1 ?_
 refine xcX ⟨[1],[]⟩ (tabG 1 (cg6 hr2)) ?_
 refine xcX ⟨[],[]⟩ (tabG 2 (cg1 hr3)) ?_
 refine xsX 1 ?_
 refine xcX ⟨[8],[]⟩ (tabG 3 (cg3 hr4)) ?_
 refine xsX 1 ?_
 refine xlX ?_
 refine xS ?_
 obtain⟨r5,hr5,H⟩:=Ji H
 have F:=Y
 refine xQ ?_
 refine xs 3 ?_
 refine xc ⟨[8],[]⟩ (tabG 4 (cg2 hr5)) ?_
 refine xs 1 ?_
 refine xl ?_
 replace H:=oI H
 refine xS ?_
 subst H
 refine xrD [] ?_
 exact xO ⟨[1,2,3,8],[]⟩
theorem Jjf:Jd Tryz.prog 126∧(∀ g,ZM g→Jm Tryz.prog 126 g)∧(true=true→∀ g,ZM g→∃ val bs ts,g.out=.ret val bs ts) :=
 ⟨JCe,JiB,fun _=>by rintro _ ⟨_,_,_,_,_,_,_,_,_,_,rfl⟩; exact⟨_,_,_,rfl⟩⟩
noncomputable def JbZ(a1:List Token):(Int×Nat×(List Token))→Option ((Int×Nat×(List Token)) ⊕ YS)
 | (x1,x2,x3)=>if(leI 0 x1)=true then if(0:Int)≤x1∧x1.toNat<a1.length then if x1.toNat<a1.length then if x2≤x3.length∧(x2 + [(a1.getD x1.toNat default)].length) * 120≤140737488355328 then some (.inl (IntKind.i64.wrap (x1-1),x2 + [(a1.getD x1.toNat default)].length,(List.take x2 x3)++[(a1.getD x1.toNat default)])) else none else none else none else inrO (some (x2,x3))
noncomputable def Jdq(a0:Nat)(a1 a2:List Token):Option YS :=
 Jv (JbZ a1) (IntKind.i64.wrap (((a1.length:Nat):Int)-1),a0,a2)
def ZR(a0:Nat)(a1 a2:List Token)(r:YS):GI :=
 ⟨[.c (.pt 1 0),.c (.os 2 11 0 a1.length)],[[.os 3 11 0 a0],[.arr 11 (List.map Ja a1)],[.arr 11 (List.map Ja a2)]],[],.ret (.tu []) [[.os 4 11 0 r.1],[],[],[.arr 11 (List.map Ja r.2)]] []⟩
def ZS:GI→Prop:=Sg3 Jdq ZR
theorem JiE:∀ g,ZS g→Jm Tryz.prog 121 g:=by
 rintro _ ⟨a0,a1,a2,r,H,rfl⟩
 refine xGn mixed [] [] [] trivial trivial trivial Tryz.func121 _ ?_
 have G:=True.intro
 have Y:=xZ y_24 <| xZ y_44 <| xZ JpQ <| xZ Tryz.results121 <| xZ Jl.eq_1 <| xZ Ja.eq_1 <| ZR.eq_1
 dsimp only[ZR]
 simp only[Jdq]at H
 refine xS ?_
 refine xrn 2 1 ?_
 refine xrn 3 1 ?_
 refine xr ?_
 refine JG (JbZ a1) (fun s=>[(0,.c (.pt 1 0)),(1,.c (.os 4 11 0 a1.length)),(4,cI s.1)]) (fun s=>[[.os 5 11 0 s.2.1],[],[],[.arr 11 (List.map Ja a1)],[.arr 11 (List.map Ja s.2.2)]]) [] H (xK ⟨[1,2,3,4,5],[]⟩) ?_
 rintro n1 ⟨x1,x2,x3⟩ o1 H hF1
 rw[JbZ]at H
 refine xS ?_
 refine xr ?_
 rcases xB Y G H with⟨p,H,F,G,q⟩|⟨p,H,F,G,q⟩
 ·refine xT ?_
  obtain⟨g,H⟩:=Jc H
  obtain⟨g,H⟩:=Jc H
  have F:=xZ Y (Jh Ja a1 x1.toNat default default (by omega))
  obtain⟨g,H⟩:=Jc H
  have F:=xZ F (JH KL [(a1.getD x1.toNat default)])
  have T:=JfG x3 x2 (by omega)
  have F:=xZ F (Nat.min_eq_left (show x2≤x3.length by omega))
  have G:=xZ G (Nat.min_eq_left (show x2≤x3.length by omega))
  have F:=xZ F (Jdi Ja T)
  have G:=xZ G (Jdi Ja T)
  have L:[(a1.getD x1.toNat default)].length=1:=rfl
  refine xR ?_
  refine xr ?_
  exact Jw (JA H hF1) (xK ⟨[1,2,3,4,6],[]⟩)
 replace H:=Jq H hF1
 replace H:=oI H
 refine xE ?_
 subst H
 refine xnD [] ?_
 exact xO ⟨[1,2,3,5],[]⟩
theorem Ji1:Jd Tryz.prog 121∧(∀ g,ZS g→Jm Tryz.prog 121 g)∧(true=true→∀ g,ZS g→∃ val bs ts,g.out=.ret val bs ts) :=
 ⟨Jvo,JiE,fun _=>by rintro _ ⟨_,_,_,_,_,rfl⟩; exact⟨_,_,_,rfl⟩⟩
noncomputable def Zx(a0:Nat)(a1:List Token):Option Yf :=
 if(0:Int)≤(IntKind.i64.wrap (((a0:Nat):Int)-1))∧(IntKind.i64.wrap (((a0:Nat):Int)-1)).toNat<a0 then if(IntKind.i64.wrap (((a0:Nat):Int)-1)).toNat<a1.length then if(0:Int)≤0∧0≤(IntKind.i64.wrap (((a0:Nat):Int)-1))∧(IntKind.i64.wrap (((a0:Nat):Int)-1))≤((a0:Nat):Int) then some ((a1.getD ((IntKind.i64.wrap (((a0:Nat):Int)-1)).toNat) default).Kind,(a1.getD ((IntKind.i64.wrap (((a0:Nat):Int)-1)).toNat) default).Text,(a1.getD ((IntKind.i64.wrap (((a0:Nat):Int)-1)).toNat) default).Space,(a1.getD ((IntKind.i64.wrap (((a0:Nat):Int)-1)).toNat) default).First,(a1.getD ((IntKind.i64.wrap (((a0:Nat):Int)-1)).toNat) default).File,(a1.getD ((IntKind.i64.wrap (((a0:Nat):Int)-1)).toNat) default).At,(a1.getD ((IntKind.i64.wrap (((a0:Nat):Int)-1)).toNat) default).End,(a1.getD ((IntKind.i64.wrap (((a0:Nat):Int)-1)).toNat) default).Line,(a1.getD ((IntKind.i64.wrap (((a0:Nat):Int)-1)).toNat) default).Hide,(a1.getD ((IntKind.i64.wrap (((a0:Nat):Int)-1)).toNat) default).Calls,(a1.getD ((IntKind.i64.wrap (((a0:Nat):Int)-1)).toNat) default).Made,(IntKind.i64.wrap (((a0:Nat):Int)-1)).toNat) else none else none else none
def Jam(a0:Nat)(a1:List Token)(r:Yf):GI :=
 ⟨[.c (.pt 1 0)],[[.os 2 11 0 a0],[.arr 11 (List.map Ja a1)]],[],.ret (.ag [kI r.1,kS r.2.1,kB r.2.2.1,kB r.2.2.2.1,kI r.2.2.2.2.1,kI r.2.2.2.2.2.1,kI r.2.2.2.2.2.2.1,kI r.2.2.2.2.2.2.2.1,.d (.sl 1 (List.map dS r.2.2.2.2.2.2.2.2.1)),.d (.sl 3 (List.map Jl r.2.2.2.2.2.2.2.2.2.1)),kI r.2.2.2.2.2.2.2.2.2.2.1]) [[.os 2 11 0 r.2.2.2.2.2.2.2.2.2.2.2],[.arr 11 (List.map Ja a1)]] []⟩
def JaD:GI→Prop:=Sg2 Zx Jam
theorem JiZ:∀ g,JaD g→Jm Tryz.prog 122 g:=by
 rintro _ ⟨a0,a1,r,H,rfl⟩
 refine xGn mixed [] [] [] trivial trivial trivial Tryz.func122 _ ?_
 have G:=True.intro
 have Y:=xZ y_44 <| xZ JpQ <| xZ Tryz.results122 <| xZ Jl.eq_1 <| xZ Ja.eq_1 <| Jam.eq_1
 dsimp only[Jam]
 simp only[Zx]at H
 refine xS ?_
 refine xr ?_
 obtain⟨g,H⟩:=Jc H
 obtain⟨g,H⟩:=Jc H
 have F:=xZ Y (Jh Ja a1 ((IntKind.i64.wrap (((a0:Nat):Int)-1)).toNat) default default (by omega))
 refine xR ?_
 obtain⟨g,H⟩:=Jc H
 refine xr ?_
 replace H:=oI H
 refine xr ?_
 subst H
 refine xrD [] ?_
 exact xO ⟨[1,2],[]⟩
theorem Jjm:Jd Tryz.prog 122∧(∀ g,JaD g→Jm Tryz.prog 122 g)∧(true=true→∀ g,JaD g→∃ val bs ts,g.out=.ret val bs ts) :=
 ⟨JA0,JiZ,fun _=>by rintro _ ⟨_,_,_,_,rfl⟩; exact⟨_,_,_,rfl⟩⟩
noncomputable def Kd(a1:List Macro)(a2:List Source)(a4:Int)(x3 x4:List Token)(r3 x5 x7:Int)(x8:List UInt8)(x9 x10:Bool)(x11 x12 x13 x14:Int)(x15:List (List UInt8))(x16:List Call)(x17:Int):(Bool×Nat)→Option Yg
 | (x18,x19)=>if x18=true then if(x3.length + [(⟨x7,x8,x9,x10,x11,x12,x13,x14,x15,x16,x17⟩:Token)].length) * 120≤140737488355328 then if(ltI a4 ((x3.length + [(⟨x7,x8,x9,x10,x11,x12,x13,x14,x15,x16,x17⟩:Token)].length:Nat):Int))=true then(Jg9 4 x7 x8 x9 x10 x11 x12 x13 x14 x15 x16 x17).bind fun e2=>inrO (some (.er (4,x11,x12,r3))) else some (.inl (r3,x19,x3++[(⟨x7,x8,x9,x10,x11,x12,x13,x14,x15,x16,x17⟩:Token)],x4)) else none else if(0:Int)≤x5∧x5.toNat<a1.length then(Jdt (a1.getD x5.toNat default) (⟨x7,x8,x9,x10,x11,x12,x13,x14,x15,x16,x17⟩:Token) a1 a2 r3 a4 x19 x4).bind fun r5=>(Jdq r5.1 r5.2 x4).bind fun r6=>some (.inl (r3,r6.1,x3,r6.2)) else none
noncomputable def Kc(a1:List Macro)(a2:List Source)(a4:Int)(x3 x4:List Token)(r3:Int):(Int×Nat×Int×(List UInt8)×Bool×Bool×Int×Int×Int×Int×YV×(List Call)×Int)→Option Yg
 | (x5,x6,x7,x8,x9,x10,x11,x12,x13,x14,x15,x16,x17)=>if(ltI x5 0)=true then Kd a1 a2 a4 x3 x4 r3 x5 x7 x8 x9 x10 x11 x12 x13 x14 x15 x16 x17 (true,x6) else if(0:Int)≤x5∧x5.toNat<a1.length then if((a1.getD x5.toNat default).Call)=true then if(eqI ((x6:Nat):Int) 0)=true then Kd a1 a2 a4 x3 x4 r3 x5 x7 x8 x9 x10 x11 x12 x13 x14 x15 x16 x17 (true,x6) else if(0:Int)≤(IntKind.i64.wrap (((x6:Nat):Int)-1))∧(IntKind.i64.wrap (((x6:Nat):Int)-1)).toNat<x6 then if(IntKind.i64.wrap (((x6:Nat):Int)-1)).toNat<x4.length then if(!eqS ((x4.getD ((IntKind.i64.wrap (((x6:Nat):Int)-1)).toNat) default).Text) [40])=true then Kd a1 a2 a4 x3 x4 r3 x5 x7 x8 x9 x10 x11 x12 x13 x14 x15 x16 x17 (true,x6) else if(0:Int)≤(IntKind.i64.wrap (((x6:Nat):Int)-1))∧(IntKind.i64.wrap (((x6:Nat):Int)-1)).toNat<x6 then if(IntKind.i64.wrap (((x6:Nat):Int)-1)).toNat<x4.length then Kd a1 a2 a4 x3 x4 r3 x5 x7 x8 x9 x10 x11 x12 x13 x14 x15 x16 x17 (!eqI ((x4.getD ((IntKind.i64.wrap (((x6:Nat):Int)-1)).toNat) default).Kind) 5,x6) else none else none else none else none else Kd a1 a2 a4 x3 x4 r3 x5 x7 x8 x9 x10 x11 x12 x13 x14 x15 x16 x17 (false,x6) else none
noncomputable def KC(a1:List Macro)(a2:List Source)(a4:Int)(x3 x4:List Token)(r2:Yf)(r3:Int):(Bool×Nat)→Option Yg
 | (x30,x31)=>if x30=true then(V9 a1 r2.2.1).bind fun r8=>Kc a1 a2 a4 x3 x4 r3 (r8,x31,r2.1,r2.2.1,r2.2.2.1,r2.2.2.2.1,r2.2.2.2.2.1,r2.2.2.2.2.2.1,r2.2.2.2.2.2.2.1,r2.2.2.2.2.2.2.2.1,r2.2.2.2.2.2.2.2.2.1,r2.2.2.2.2.2.2.2.2.2.1,r2.2.2.2.2.2.2.2.2.2.2.1) else Kc a1 a2 a4 x3 x4 r3 ((-1),x31,r2.1,r2.2.1,r2.2.2.1,r2.2.2.2.1,r2.2.2.2.2.1,r2.2.2.2.2.2.1,r2.2.2.2.2.2.2.1,r2.2.2.2.2.2.2.2.1,r2.2.2.2.2.2.2.2.2.1,r2.2.2.2.2.2.2.2.2.2.1,r2.2.2.2.2.2.2.2.2.2.2.1)
noncomputable def KD(a1:List Macro)(a2:List Source)(a4:Int)(x3 x4:List Token)(r2:Yf)(r3:Int)(r7:YE):(Bool×Nat×Bool×Bool×Int×Int×Int×Int×YV×(List Call))→Option Yg
 | (x20,x21,x22,x23,x24,x25,x26,x27,x28,x29)=>if x20=true then Kc a1 a2 a4 x3 x4 r3 ((-1),x21,r7.1,r7.2.1,x22,x23,x24,x25,x26,x27,x28,x29,r7.2.2.1) else if(eqI r2.1 1)=true then(Kq r2.2.2.2.2.2.2.2.2.1 r2.2.1).bind fun r9=>KC a1 a2 a4 x3 x4 r2 r3 (!r9,x21) else KC a1 a2 a4 x3 x4 r2 r3 (false,x21)
noncomputable def KE(a1:List Macro)(a2:List Source)(a4:Int):(Int×Nat×(List Token)×(List Token))→Option Yg
 | (x1,x2,x3,x4)=>if(ltI 0 ((x2:Nat):Int))=true then(Zx x2 x4).bind fun r2=>grB (Ja7 a1 a2 x1 a4 r2.1 r2.2.1 r2.2.2.1 r2.2.2.2.1 r2.2.2.2.2.1 r2.2.2.2.2.2.1 r2.2.2.2.2.2.2.1 r2.2.2.2.2.2.2.2.1 r2.2.2.2.2.2.2.2.2.1 r2.2.2.2.2.2.2.2.2.2.1 r2.2.2.2.2.2.2.2.2.2.2.1) (fun r3=>(JF (⟨r2.1,r2.2.1,r2.2.2.1,r2.2.2.2.1,r2.2.2.2.2.1,r2.2.2.2.2.2.1,r2.2.2.2.2.2.2.1,r2.2.2.2.2.2.2.2.1,r2.2.2.2.2.2.2.2.2.1,r2.2.2.2.2.2.2.2.2.2.1,r2.2.2.2.2.2.2.2.2.2.2.1⟩:Token) a1 a2 r3 a4).bind fun r7=>if r7.2.2.2=true then KD a1 a2 a4 x3 x4 r2 r3 r7 (eqI r2.1 1,r2.2.2.2.2.2.2.2.2.2.2.2,(⟨r2.1,r2.2.1,r2.2.2.1,r2.2.2.2.1,r2.2.2.2.2.1,r2.2.2.2.2.2.1,r2.2.2.2.2.2.2.1,r2.2.2.2.2.2.2.2.1,r2.2.2.2.2.2.2.2.2.1,r2.2.2.2.2.2.2.2.2.2.1,r2.2.2.2.2.2.2.2.2.2.2.1⟩:Token).Space,(⟨r2.1,r2.2.1,r2.2.2.1,r2.2.2.2.1,r2.2.2.2.2.1,r2.2.2.2.2.2.1,r2.2.2.2.2.2.2.1,r2.2.2.2.2.2.2.2.1,r2.2.2.2.2.2.2.2.2.1,r2.2.2.2.2.2.2.2.2.2.1,r2.2.2.2.2.2.2.2.2.2.2.1⟩:Token).First,(⟨r2.1,r2.2.1,r2.2.2.1,r2.2.2.2.1,r2.2.2.2.2.1,r2.2.2.2.2.2.1,r2.2.2.2.2.2.2.1,r2.2.2.2.2.2.2.2.1,r2.2.2.2.2.2.2.2.2.1,r2.2.2.2.2.2.2.2.2.2.1,r2.2.2.2.2.2.2.2.2.2.2.1⟩:Token).File,(⟨r2.1,r2.2.1,r2.2.2.1,r2.2.2.2.1,r2.2.2.2.2.1,r2.2.2.2.2.2.1,r2.2.2.2.2.2.2.1,r2.2.2.2.2.2.2.2.1,r2.2.2.2.2.2.2.2.2.1,r2.2.2.2.2.2.2.2.2.2.1,r2.2.2.2.2.2.2.2.2.2.2.1⟩:Token).At,(⟨r2.1,r2.2.1,r2.2.2.1,r2.2.2.2.1,r2.2.2.2.2.1,r2.2.2.2.2.2.1,r2.2.2.2.2.2.2.1,r2.2.2.2.2.2.2.2.1,r2.2.2.2.2.2.2.2.2.1,r2.2.2.2.2.2.2.2.2.2.1,r2.2.2.2.2.2.2.2.2.2.2.1⟩:Token).End,(⟨r2.1,r2.2.1,r2.2.2.1,r2.2.2.2.1,r2.2.2.2.2.1,r2.2.2.2.2.2.1,r2.2.2.2.2.2.2.1,r2.2.2.2.2.2.2.2.1,r2.2.2.2.2.2.2.2.2.1,r2.2.2.2.2.2.2.2.2.2.1,r2.2.2.2.2.2.2.2.2.2.2.1⟩:Token).Line,(⟨r2.1,r2.2.1,r2.2.2.1,r2.2.2.2.1,r2.2.2.2.2.1,r2.2.2.2.2.2.1,r2.2.2.2.2.2.2.1,r2.2.2.2.2.2.2.2.1,r2.2.2.2.2.2.2.2.2.1,r2.2.2.2.2.2.2.2.2.2.1,r2.2.2.2.2.2.2.2.2.2.2.1⟩:Token).Hide,(⟨r2.1,r2.2.1,r2.2.2.1,r2.2.2.2.1,r2.2.2.2.2.1,r2.2.2.2.2.2.1,r2.2.2.2.2.2.2.1,r2.2.2.2.2.2.2.2.1,r2.2.2.2.2.2.2.2.2.1,r2.2.2.2.2.2.2.2.2.2.1,r2.2.2.2.2.2.2.2.2.2.2.1⟩:Token).Calls) else KD a1 a2 a4 x3 x4 r2 r3 r7 (false,r2.2.2.2.2.2.2.2.2.2.2.2,(⟨r2.1,r2.2.1,r2.2.2.1,r2.2.2.2.1,r2.2.2.2.2.1,r2.2.2.2.2.2.1,r2.2.2.2.2.2.2.1,r2.2.2.2.2.2.2.2.1,r2.2.2.2.2.2.2.2.2.1,r2.2.2.2.2.2.2.2.2.2.1,r2.2.2.2.2.2.2.2.2.2.2.1⟩:Token).Space,(⟨r2.1,r2.2.1,r2.2.2.1,r2.2.2.2.1,r2.2.2.2.2.1,r2.2.2.2.2.2.1,r2.2.2.2.2.2.2.1,r2.2.2.2.2.2.2.2.1,r2.2.2.2.2.2.2.2.2.1,r2.2.2.2.2.2.2.2.2.2.1,r2.2.2.2.2.2.2.2.2.2.2.1⟩:Token).First,(⟨r2.1,r2.2.1,r2.2.2.1,r2.2.2.2.1,r2.2.2.2.2.1,r2.2.2.2.2.2.1,r2.2.2.2.2.2.2.1,r2.2.2.2.2.2.2.2.1,r2.2.2.2.2.2.2.2.2.1,r2.2.2.2.2.2.2.2.2.2.1,r2.2.2.2.2.2.2.2.2.2.2.1⟩:Token).File,(⟨r2.1,r2.2.1,r2.2.2.1,r2.2.2.2.1,r2.2.2.2.2.1,r2.2.2.2.2.2.1,r2.2.2.2.2.2.2.1,r2.2.2.2.2.2.2.2.1,r2.2.2.2.2.2.2.2.2.1,r2.2.2.2.2.2.2.2.2.2.1,r2.2.2.2.2.2.2.2.2.2.2.1⟩:Token).At,(⟨r2.1,r2.2.1,r2.2.2.1,r2.2.2.2.1,r2.2.2.2.2.1,r2.2.2.2.2.2.1,r2.2.2.2.2.2.2.1,r2.2.2.2.2.2.2.2.1,r2.2.2.2.2.2.2.2.2.1,r2.2.2.2.2.2.2.2.2.2.1,r2.2.2.2.2.2.2.2.2.2.2.1⟩:Token).End,(⟨r2.1,r2.2.1,r2.2.2.1,r2.2.2.2.1,r2.2.2.2.2.1,r2.2.2.2.2.2.1,r2.2.2.2.2.2.2.1,r2.2.2.2.2.2.2.2.1,r2.2.2.2.2.2.2.2.2.1,r2.2.2.2.2.2.2.2.2.2.1,r2.2.2.2.2.2.2.2.2.2.2.1⟩:Token).Line,(⟨r2.1,r2.2.1,r2.2.2.1,r2.2.2.2.1,r2.2.2.2.2.1,r2.2.2.2.2.2.1,r2.2.2.2.2.2.2.1,r2.2.2.2.2.2.2.2.1,r2.2.2.2.2.2.2.2.2.1,r2.2.2.2.2.2.2.2.2.2.1,r2.2.2.2.2.2.2.2.2.2.2.1⟩:Token).Hide,(⟨r2.1,r2.2.1,r2.2.2.1,r2.2.2.2.1,r2.2.2.2.2.1,r2.2.2.2.2.2.1,r2.2.2.2.2.2.2.1,r2.2.2.2.2.2.2.2.1,r2.2.2.2.2.2.2.2.2.1,r2.2.2.2.2.2.2.2.2.2.1,r2.2.2.2.2.2.2.2.2.2.2.1⟩:Token).Calls)) (fun e1=>inrO (some (.er (11,r2.2.2.2.2.1,r2.2.2.2.2.2.1,x1)))) else inrO (some (.ok (x3,x1)))
noncomputable def ZA(a0:List Token)(a1:List Macro)(a2:List Source)(a3 a4:Int):Option (GR YM YT) :=
 (JaY a0 []).bind fun r1=>Jv (KE a1 a2 a4) (a3,r1.length,([]:List Token),r1)
def Jjn(a0:List Token)(a1:List Macro)(a2:List Source)(a3 a4:Int):GR YM YT→GOut
 | .ok r=>.ret (.c (.d (.sl 11 (List.map Ja r.1)))) [[.d (.sl 5 (List.map Jf a1)),.d (.sl 2 (List.map Jg a2)),kI r.2,kI a4]] []
 | .er r=>.pan (.iface 170 (.agg ⟨[.int .i64 r.1,.int .i64 r.2.1,.int .i64 r.2.2.1]⟩)) [[.d (.sl 5 (List.map Jf a1)),.d (.sl 2 (List.map Jg a2)),kI r.2.2.2,kI a4]] []
def Jax(a0:List Token)(a1:List Macro)(a2:List Source)(a3 a4:Int)(r:GR YM YT):GI :=
 ⟨[.c (.pt 1 0),.c (.d (.sl 11 (List.map Ja a0)))],[[.d (.sl 5 (List.map Jf a1)),.d (.sl 2 (List.map Jg a2)),kI a3,kI a4]],[],Jjn a0 a1 a2 a3 a4 r⟩
def Jaq:GI→Prop:=Sg5 ZA Jax
theorem Ji3:∀ g,Jaq g→Jm Tryz.prog 104 g:=by
 rintro _ ⟨a0,a1,a2,a3,a4,r,H,rfl⟩
 refine xGn mixed [(86,JdN),(108,VW)] [(121,true,JbT),(122,true,JaD),(123,false,ZU),(125,false,JdL),(126,true,ZM),(121,true,ZS),(124,true,Zi)] [] ⟨⟨Jqq,Jhy⟩,⟨JBM,Je7⟩,trivial⟩ ⟨JkZ,Jjm,Ji2,JkV,Jjf,Ji1,JiD,trivial⟩ trivial Tryz.func104 _ ?_
 have G:=True.intro
 have Y:=xZ y_3 <| xZ y_4 <| xZ y_9 <| xZ y_24 <| xZ y_28 <| xZ y_41 <| xZ y_44 <| xZ y_63 <| xZ Juh <| xZ JpQ <| xZ Tryz.results104 <| xZ Jg.eq_1 <| xZ Jl.eq_1 <| xZ Ja.eq_1 <| xZ Jf.eq_1 <| xZ JbV.eq_1 <| xZ Jam.eq_1 <| xZ ZP.eq_1 <| xZ JdI.eq_1 <| xZ ZO.eq_1 <| xZ ZR.eq_1 <| xZ Zo.eq_1 <| Jax.eq_1
 dsimp only[Jax]
 simp only[ZA]at H
 refine xS ?_
 refine xr ?_
 refine xr ?_
 obtain⟨r1,hr1,H⟩:=Ji H
 have F:=Y
 refine xQ ?_
 refine xs 1 ?_
 refine xc ⟨[2,0],[]⟩ (tabG 0 (cg2 hr1)) ?_
 refine xl ?_
 refine xS ?_
 refine xr ?_
 refine JG (KE a1 a2 a4) (fun s=>[(0,.c (.pt 1 0)),(5,.c (.pt 2 0)),(6,.c (.os 3 11 0 s.2.2.1.length))]) (fun s=>[[.d (.sl 5 (List.map Jf a1)),.d (.sl 2 (List.map Jg a2)),kI s.1,kI a4],[.os 4 11 0 s.2.1],[.arr 11 (List.map Ja s.2.2.1)],[.arr 11 (List.map Ja s.2.2.2)]]) [] H (xK ⟨[1,2,0,5],[]⟩) ?_
 rintro n1 ⟨x1,x2,x3,x4⟩ o1 H hF1
 rw[KE]at H
 refine xS ?_
 refine xr ?_
 rcases xB Y G H with⟨p,H,F,G,q⟩|⟨p,H,F,G,q⟩
 ·refine xT ?_
  obtain⟨r2,hr2,H⟩:=Ji H
  have F:=Y
  refine xQ ?_
  refine xc ⟨[2,4],[]⟩ (tabG 1 (cg2 hr2)) ?_
  refine xs 2 ?_
  refine xl ?_
  refine xS ?_
  rcases Z3 H with⟨r3,hr3,H⟩|⟨e1,hr4,H⟩
  ·have F:=Y
   refine xQ ?_
   refine xs 1 ?_
   refine xc ⟨[1,7],[]⟩ (tabG 2 (cg15 hr3)) ?_
   refine xl ?_
   refine xS ?_
   refine xr0 ?_
   refine Jj ?_
   refine Jn (Kc a1 a2 a4 x3 x4 r3) (fun s=>[(0,.c (.pt 1 0)),(5,.c (.pt 2 0)),(6,.c (.os 3 11 0 x3.length)),(7,.c (.pt 4 0)),(8,cI s.1)]) (fun s=>[[.d (.sl 5 (List.map Jf a1)),.d (.sl 2 (List.map Jg a2)),kI r3,kI a4],[.os 5 11 0 s.2.1],[.arr 11 (List.map Ja x3)],[kI s.2.2.1,kS s.2.2.2.1,kB s.2.2.2.2.1,kB s.2.2.2.2.2.1,kI s.2.2.2.2.2.2.1,kI s.2.2.2.2.2.2.2.1,kI s.2.2.2.2.2.2.2.2.1,kI s.2.2.2.2.2.2.2.2.2.1,.d (.sl 1 (List.map dS s.2.2.2.2.2.2.2.2.2.2.1)),.d (.sl 3 (List.map Jl s.2.2.2.2.2.2.2.2.2.2.2.1)),kI s.2.2.2.2.2.2.2.2.2.2.2.2],[.arr 11 (List.map Ja x4)]]) [] o1 ?_ ?_
   ·refine xS ?_
    obtain⟨r7,hr9,H⟩:=Ji H
    have F:=Y
    refine xQ ?_
    refine xs 2 ?_
    refine xc ⟨[1],[]⟩ (tabG 6 (cg5 hr9)) ?_
    refine xs 6 ?_
    refine xl ?_
    refine  ?_
    refine Jj ?_
    refine Jn (KD a1 a2 a4 x3 x4 r2 r3 r7) (fun s=>[(0,.c (.pt 1 0)),(5,.c (.pt 2 0)),(6,.c (.os 3 11 0 x3.length)),(7,.c (.pt 4 0)),(8,cI (-1)),(9,.c (.pt 5 0)),(30,cB s.1)]) (fun s=>[[.d (.sl 5 (List.map Jf a1)),.d (.sl 2 (List.map Jg a2)),kI r3,kI a4],[.os 6 11 0 s.2.1],[.arr 11 (List.map Ja x3)],[kI r2.1,kS r2.2.1,kB r2.2.2.1,kB r2.2.2.2.1,kI r2.2.2.2.2.1,kI r2.2.2.2.2.2.1,kI r2.2.2.2.2.2.2.1,kI r2.2.2.2.2.2.2.2.1,.d (.sl 1 (List.map dS r2.2.2.2.2.2.2.2.2.1)),.d (.sl 3 (List.map Jl r2.2.2.2.2.2.2.2.2.2.1)),kI r2.2.2.2.2.2.2.2.2.2.2.1],[kI r7.1,kS r7.2.1,kB s.2.2.1,kB s.2.2.2.1,kI s.2.2.2.2.1,kI s.2.2.2.2.2.1,kI s.2.2.2.2.2.2.1,kI s.2.2.2.2.2.2.2.1,.d (.sl 1 (List.map dS s.2.2.2.2.2.2.2.2.1)),.d (.sl 3 (List.map Jl s.2.2.2.2.2.2.2.2.2)),kI r7.2.2.1],[.arr 11 (List.map Ja x4)]]) [] o1 ?_ ?_
    ·rcases xB Y G H with⟨p,H,F,G,q⟩|⟨p,H,F,G,q⟩
     ·refine xR ?_
      exact Jb H (xK ⟨[1,2,3,7,11,4],[]⟩)
     refine xR ?_
     exact Jb H (xK ⟨[1,2,3,7,11,4],[]⟩)
    rintro ⟨x20,x21,x22,x23,x24,x25,x26,x27,x28,x29⟩ H
    rw[KD]at H
    rcases xB Y G H with⟨p,H,F,G,q⟩|⟨p,H,F,G,q⟩
    ·refine xT ?_
     refine xr ?_
     exact Jb H (xK ⟨[1,2,3,4,6],[]⟩)
    refine xE0 ?_
    refine Jn (KC a1 a2 a4 x3 x4 r2 r3) (fun s=>[(0,.c (.pt 1 0)),(5,.c (.pt 2 0)),(6,.c (.os 3 11 0 x3.length)),(7,.c (.pt 4 0)),(8,cI (-1)),(42,cB s.1)]) (fun s=>[[.d (.sl 5 (List.map Jf a1)),.d (.sl 2 (List.map Jg a2)),kI r3,kI a4],[.os 5 11 0 s.2],[.arr 11 (List.map Ja x3)],[kI r2.1,kS r2.2.1,kB r2.2.2.1,kB r2.2.2.2.1,kI r2.2.2.2.2.1,kI r2.2.2.2.2.2.1,kI r2.2.2.2.2.2.2.1,kI r2.2.2.2.2.2.2.2.1,.d (.sl 1 (List.map dS r2.2.2.2.2.2.2.2.2.1)),.d (.sl 3 (List.map Jl r2.2.2.2.2.2.2.2.2.2.1)),kI r2.2.2.2.2.2.2.2.2.2.2.1],[.arr 11 (List.map Ja x4)]]) [] o1 ?_ ?_
    ·rcases xB Y G H with⟨p,H,F,G,q⟩|⟨p,H,F,G,q⟩
     ·obtain⟨r9,hr11,H⟩:=Ji H
      have F:=xCf F (Jfk r2.2.2.2.2.2.2.2.2.1 r2.2.1 r9 hr11)
      refine xR ?_
      exact Jb H (xK ⟨[1,2,3,4,6],[]⟩)
     refine xR ?_
     exact Jb H (xK ⟨[1,2,3,4,6],[]⟩)
    rintro ⟨x30,x31⟩ H
    rw[KC]at H
    rcases xB Y G H with⟨p,H,F,G,q⟩|⟨p,H,F,G,q⟩
    ·refine xT ?_
     obtain⟨r8,hr10,H⟩:=Ji H
     have F:=xC Y (Jh4 a1 r2.2.1 r8 hr10)
     refine xR ?_
     exact Jb H (xK ⟨[1,2,3,4,5],[]⟩)
    refine xE ?_
    exact Jb H (xK ⟨[1,2,3,4,5],[]⟩)
   rintro ⟨x5,x6,x7,x8,x9,x10,x11,x12,x13,x14,x15,x16,x17⟩ H
   rw[Kc]at H
   refine Kf ?_
   refine Jn (Kd a1 a2 a4 x3 x4 r3 x5 x7 x8 x9 x10 x11 x12 x13 x14 x15 x16 x17) (fun s=>[(0,.c (.pt 1 0)),(5,.c (.pt 2 0)),(6,.c (.os 3 11 0 x3.length)),(7,.c (.pt 4 0)),(8,cI x5),(86,cB s.1)]) (fun s=>[[.d (.sl 5 (List.map Jf a1)),.d (.sl 2 (List.map Jg a2)),kI r3,kI a4],[.os 5 11 0 s.2],[.arr 11 (List.map Ja x3)],[kI x7,kS x8,kB x9,kB x10,kI x11,kI x12,kI x13,kI x14,.d (.sl 1 (List.map dS x15)),.d (.sl 3 (List.map Jl x16)),kI x17],[.arr 11 (List.map Ja x4)]]) [] o1 ?_ ?_
   ·rcases xB Y G H with⟨p,H,F,G,q⟩|⟨p,H,F,G,q⟩
    ·refine xR ?_
     exact Jb H (xK ⟨[1,2,3,4,5],[]⟩)
    obtain⟨g,H⟩:=Jc H
    have F:=xZ F (Jh Jf a1 x5.toNat default default (by omega))
    rcases xB F G H with⟨p,H,F,G,q⟩|⟨p,H,F,G,q⟩
    ·rcases xB F G H with⟨p,H,F,G,q⟩|⟨p,H,F,G,q⟩
     ·refine xR ?_
      exact Jb H (xK ⟨[1,2,3,4,5],[]⟩)
     obtain⟨g,H⟩:=Jc H
     obtain⟨g,H⟩:=Jc H
     have F:=xZ F (Jh Ja x4 ((IntKind.i64.wrap (((x6:Nat):Int)-1)).toNat) default default (by omega))
     rcases xB F G H with⟨p,H,F,G,q⟩|⟨p,H,F,G,q⟩
     ·refine xR ?_
      exact Jb H (xK ⟨[1,2,3,4,5],[]⟩)
     obtain⟨g,H⟩:=Jc H
     obtain⟨g,H⟩:=Jc H
     have F:=xZ F (Jh Ja x4 ((IntKind.i64.wrap (((x6:Nat):Int)-1)).toNat) default default (by omega))
     refine xR ?_
     exact Jb H (xK ⟨[1,2,3,4,5],[]⟩)
    refine xR ?_
    exact Jb H (xK ⟨[1,2,3,4,5],[]⟩)
   rintro ⟨x18,x19⟩ H
   rw[Kd]at H
   rcases xB Y G H with⟨p,H,F,G,q⟩|⟨p,H,F,G,q⟩
   ·refine xT ?_
    obtain⟨g,H⟩:=Jc H
    have F:=xZ Y (JH KL [(⟨x7,x8,x9,x10,x11,x12,x13,x14,x15,x16,x17⟩:Token)])
    have L:[(⟨x7,x8,x9,x10,x11,x12,x13,x14,x15,x16,x17⟩:Token)].length=1:=rfl
    refine xR ?_
    refine xr ?_
    rcases xB Y G H with⟨p,H,F,G,q⟩|⟨p,H,F,G,q⟩
    ·refine xT ?_
     obtain⟨e2,hr6,H⟩:=Ji H
     have F:=Y
     refine xQp [98] ?_
     refine xp ⟨[4],[]⟩ (tabG 3 (cg12 hr6)) ?_
     replace H:=Jq H hF1
     replace H:=oI H
     refine xS ?_
     subst H
     refine xpD [] ?_
     exact xOv ⟨[1],[]⟩
    refine xE ?_
    exact Jw (JA H hF1) (xK ⟨[1,2,6,5],[]⟩)
   refine xE ?_
   obtain⟨g,H⟩:=Jc H
   have F:=xZ Y (Jh Jf a1 x5.toNat default default (by omega))
   obtain⟨r5,hr7,H⟩:=Ji H
   have F:=F
   obtain⟨r6,hr8,H⟩:=Ji H
   have F:=F
   refine xQ ?_
   refine xs 8 ?_
   refine xc ⟨[1,2,5],[]⟩ (tabG 4 (cg8 hr7)) ?_
   refine xc ⟨[2,9,5],[]⟩ (tabG 5 (cg3 hr8)) ?_
   refine xl ?_
   refine xS ?_
   exact Jw (JA H hF1) (xK ⟨[1,2,3,13],[]⟩)
  have F:=Y
  refine xQp [17,18] ?_
  refine xs 1 ?_
  refine xp ⟨[1,7],[]⟩ (tabG 2 (cg15 hr4)) ?_
  replace H:=Jq H hF1
  replace H:=oI H
  refine xS ?_
  subst H
  refine xpD [] ?_
  exact xOv ⟨[1],[]⟩
 replace H:=Jq H hF1
 refine xE ?_
 replace H:=oI H
 refine xr ?_
 subst H
 refine xOf 3 11 (List.map Ja x3) [] ?_
 refine xrD [] ?_
 exact xO ⟨[1],[]⟩
theorem JfO:Jd Tryz.prog 104∧(∀ g,Jaq g→Jm Tryz.prog 104 g)∧(false=true→∀ g,Jaq g→∃ val bs ts,g.out=.ret val bs ts) :=
 ⟨JCd,Ji3,nofun⟩
noncomputable def Jex(a0 a1 a2:Int):Option Unit :=
 some ()
def Jcw(a0 a1 a2:Int)(r:Unit):DI :=
 ⟨[.c (.pt 1 0)],[[kI a0,kI a1,kI a2]],[],none,[[kI a0,kI a1,kI a2]],[],none⟩
def Jf6:DI→Prop:=fun d=>∃ (a0 a1 a2:Int) (r:Unit),Jex a0 a1 a2=some r∧d=Jcw a0 a1 a2 r
theorem Jn2(a0 a1 a2:Int)(r:Unit)(H:Jex a0 a1 a2=some r):Jf6 (Jcw a0 a1 a2 r):=⟨a0,a1,a2,r,H,rfl⟩
theorem JnC:∀ d,Jf6 d→DOk Tryz.prog 103 d:=by
 rintro _ ⟨a0,a1,a2,r,H,rfl⟩
 refine xRcl mixed [] [] [] trivial trivial Tryz.func103 _ ?_
 have G:=True.intro
 have Y:=xZ y_20 <| xZ y_31 <| xZ JyY <| xZ Tryz.results103 <| Jcw.eq_1
 dsimp only[Jcw,Option.getD_some,Option.getD_none]
 unfold Jex at H
 refine xS ?_
 refine xr ?_
 refine xt ?_
 replace H:=oI H
 refine xr ?_
 subst H
 exact xDn ⟨[1],[]⟩
noncomputable def JcE(a0 a1 a2:Int)(a3:List Token)(a4:Int):Option YT :=
 if(!eqI a0 0)=true then some (([]:List Token),0) else some (a3,a4)
def Jab(a0 a1 a2:Int)(a3:List Token)(a4:Int)(r:YT)(u:Option Value):DI :=
 ⟨[.c (.pt 1 0),.c (.pt 2 0),.c (.pt 3 0)],[[kI a0,kI a1,kI a2],[.d (.sl 11 (List.map Ja a3))],[kI a4]],[],u,[[kI a0,kI a1,kI a2],[.d (.sl 11 (List.map Ja r.1))],[kI r.2]],[],u⟩
def JeA:DI→Prop:=fun d=>∃ (a0 a1 a2:Int) (a3:List Token) (a4:Int) (r:YT) (u:Option Value),JcE a0 a1 a2 a3 a4=some r∧d=Jab a0 a1 a2 a3 a4 r u
theorem Jlr(a0 a1 a2:Int)(a3:List Token)(a4:Int)(r:YT)(u:Option Value)(H:JcE a0 a1 a2 a3 a4=some r):JeA (Jab a0 a1 a2 a3 a4 r u):=⟨a0,a1,a2,a3,a4,r,u,H,rfl⟩
theorem Jk6:∀ d,JeA d→DOk Tryz.prog 102 d:=by
 rintro _ ⟨a0,a1,a2,a3,a4,r,u,H,rfl⟩
 refine xDf mixed [] [] trivial trivial Tryz.func102 _ ?_
 have G:=True.intro
 have Y:=xZ y_3 <| xZ y_24 <| xZ y_29 <| xZ y_31 <| xZ Tryz.results102 <| xZ Jl.eq_1 <| xZ Ja.eq_1 <| Jab.eq_1
 dsimp only[Jab]
 simp only[JcE]at H
 refine xS ?_
 refine xr ?_
 rcases xB Y G H with⟨p,H,F,G,q⟩|⟨p,H,F,G,q⟩
 ·refine xT ?_
  replace H:=oI H
  refine xr ?_
  subst H
  exact xDn ⟨[1,2,3],[]⟩
 replace H:=oI H
 refine xE ?_
 subst H
 exact xDn ⟨[1,2,3],[]⟩
noncomputable def Jeb(a0 a1 a2 a3 a4 a5:Int):Option Unit :=
 some ()
def Z5(a0 a1 a2 a3 a4 a5:Int)(r:Unit):DI :=
 ⟨[.c (.pt 1 0)],[[kI a0,kI a1,kI a2]],[],(some (.iface 170 (.agg ⟨[.int .i64 a3,.int .i64 a4,.int .i64 a5]⟩))),[[kI a3,kI a4,kI a5]],[],none⟩
def Jeu:DI→Prop:=fun d=>∃ (a0 a1 a2 a3 a4 a5:Int) (r:Unit),Jeb a0 a1 a2 a3 a4 a5=some r∧d=Z5 a0 a1 a2 a3 a4 a5 r
theorem Jl9(a0 a1 a2 a3 a4 a5:Int)(r:Unit)(H:Jeb a0 a1 a2 a3 a4 a5=some r):Jeu (Z5 a0 a1 a2 a3 a4 a5 r):=⟨a0,a1,a2,a3,a4,a5,r,H,rfl⟩
theorem Jk4:∀ d,Jeu d→DOk Tryz.prog 103 d:=by
 rintro _ ⟨a0,a1,a2,a3,a4,a5,r,H,rfl⟩
 refine xRcl mixed [] [] [] trivial trivial Tryz.func103 _ ?_
 have G:=True.intro
 have Y:=xZ y_20 <| xZ y_31 <| xZ JyY <| xZ Tryz.results103 <| Z5.eq_1
 dsimp only[Z5,Option.getD_some,Option.getD_none]
 unfold Jeb at H
 refine xS ?_
 refine xr ?_
 refine xe ?_
 refine xr ?_
 refine xt ?_
 refine xr ?_
 replace H:=oI H
 refine xr ?_
 subst H
 exact xDn ⟨[1],[]⟩
noncomputable def Jec(a0 a1 a2:Int)(a3:List Token)(a4:Int):Option YT :=
 if(!eqI a0 0)=true then some (([]:List Token),0) else some (a3,a4)
def Z8(a0 a1 a2:Int)(a3:List Token)(a4:Int)(r:YT)(u:Option Value):DI :=
 ⟨[.c (.pt 1 0),.c (.pt 2 0),.c (.pt 3 0)],[[kI a0,kI a1,kI a2],[.sl 11 (List.map Ja a3) 4],[kI a4]],[44],u,[[kI a0,kI a1,kI a2],[.sl 11 (List.map Ja r.1) 4],[kI r.2]],[44],u⟩
def Jen:DI→Prop:=fun d=>∃ (a0 a1 a2:Int) (a3:List Token) (a4:Int) (r:YT) (u:Option Value),Jec a0 a1 a2 a3 a4=some r∧d=Z8 a0 a1 a2 a3 a4 r u
theorem JlY(a0 a1 a2:Int)(a3:List Token)(a4:Int)(r:YT)(u:Option Value)(H:Jec a0 a1 a2 a3 a4=some r):Jen (Z8 a0 a1 a2 a3 a4 r u):=⟨a0,a1,a2,a3,a4,r,u,H,rfl⟩
theorem Jlb:∀ d,Jen d→DOk Tryz.prog 102 d:=by
 rintro _ ⟨a0,a1,a2,a3,a4,r,u,H,rfl⟩
 refine xDf mixed [] [] trivial trivial Tryz.func102 _ ?_
 have G:=True.intro
 have Y:=xZ y_3 <| xZ y_24 <| xZ y_29 <| xZ y_31 <| xZ Tryz.results102 <| xZ Jl.eq_1 <| xZ Ja.eq_1 <| Z8.eq_1
 dsimp only[Z8]
 simp only[Jec]at H
 refine xS ?_
 refine xr ?_
 rcases xB Y G H with⟨p,H,F,G,q⟩|⟨p,H,F,G,q⟩
 ·refine xT ?_
  replace H:=oI H
  refine xr ?_
  subst H
  exact xDn ⟨[1,2,3],[0]⟩
 replace H:=oI H
 refine xE ?_
 subst H
 exact xDn ⟨[1,2,3],[4]⟩
noncomputable def JaF(a0:List Source)(a1:List Macro)(a2:List Token)(a3 a4:Int):Bool→Option Yy
 | x1=>if x1=true then some (([]:List Token),0,3,(-1),0) else grB (ZA a2 a1 a0 a3 a4) (fun r1=>(Jex 0 (-1) 0).bind fun r2=>(JcE 0 (-1) 0 r1.1 r1.2).bind fun r3=>some (r3.1,r3.2,0,(-1),0)) (fun e1=>(Jeb 0 0 0 e1.1 e1.2.1 e1.2.2.1).bind fun r4=>(Jec e1.1 e1.2.1 e1.2.2.1 ([]:List Token) 0).bind fun r5=>some (r5.1,r5.2,e1.1,e1.2.1,e1.2.2.1))
noncomputable def JhQ(a0:List Source)(a1:List Macro)(a2:List Token)(a3 a4:Int):Option Yy :=
 if(ltI a3 0)=true then JaF a0 a1 a2 a3 a4 true else if(ltI 4000 a3)=true then JaF a0 a1 a2 a3 a4 true else if(ltI a4 0)=true then JaF a0 a1 a2 a3 a4 true else JaF a0 a1 a2 a3 a4 (ltI 1500 a4)
def Jij(a0:List Source)(a1:List Macro)(a2:List Token)(a3 a4:Int)(r:Yy):GI :=
 ⟨[.c (.d (.sl 2 (List.map Jg a0))),.c (.d (.sl 5 (List.map Jf a1))),.c (.d (.sl 11 (List.map Ja a2))),cI a3,cI a4],[],[],.ret (.tu [(false,[.d (.sl 11 (List.map Ja r.1))]),(false,[kI r.2.1]),(true,[kI r.2.2.1,kI r.2.2.2.1,kI r.2.2.2.2])]) [] []⟩
def Juv:GI→Prop:=Sg5 JhQ Jij
theorem JtU:∀ g,Juv g→Jm Tryz.prog 78 g:=by
 rintro _ ⟨a0,a1,a2,a3,a4,r,H,rfl⟩
 refine xGnl mixed [7] [] [(104,false,Jaq)] [(103,Jf6),(102,JeA),(103,Jeu),(102,Jen)] trivial ⟨JfO,trivial⟩ ⟨⟨JuZ,JnC⟩,⟨Ju6,Jk6⟩,⟨JuZ,Jk4⟩,⟨Ju6,Jlb⟩,trivial⟩ Tryz.func78 _ ?_
 have G:=True.intro
 have Y:=xZ y_3 <| xZ y_24 <| xZ y_28 <| xZ y_29 <| xZ y_31 <| xZ y_37 <| xZ Juh <| xZ Tryz.results78 <| xZ Jg.eq_1 <| xZ Jl.eq_1 <| xZ Ja.eq_1 <| xZ Jf.eq_1 <| xZ Jax.eq_1 <| xZ Jcw.eq_1 <| xZ Jab.eq_1 <| xZ Z5.eq_1 <| xZ Z8.eq_1 <| Jij.eq_1
 dsimp only[Jij]
 simp only[JhQ]at H
 refine xS ?_
 refine xr0 ?_
 refine Jj ?_
 refine Kf ?_
 refine Jn (JaF a0 a1 a2 a3 a4) (fun s=>[(0,.c (.d (.sl 2 (List.map Jg a0)))),(1,.c (.d (.sl 5 (List.map Jf a1)))),(2,.c (.d (.sl 11 (List.map Ja a2)))),(3,cI a3),(4,cI a4),(10,.c (.pt 1 0)),(11,.c (.pt 2 0)),(12,.c (.pt 3 0)),(27,cB s)]) (fun s=>[[.sl 11 [] 0],[kI 0],[kI 0,kI 0,kI 0]]) [] r ?_ ?_
 ·rcases xB Y G H with⟨p,H,F,G,q⟩|⟨p,H,F,G,q⟩
  ·refine xR ?_
   exact Jb H (xK ⟨[1,2,3],[]⟩)
  rcases xB F G H with⟨p,H,F,G,q⟩|⟨p,H,F,G,q⟩
  ·refine xR ?_
   exact Jb H (xK ⟨[1,2,3],[]⟩)
  rcases xB F G H with⟨p,H,F,G,q⟩|⟨p,H,F,G,q⟩
  ·refine xR ?_
   exact Jb H (xK ⟨[1,2,3],[]⟩)
  refine xR ?_
  exact Jb H (xK ⟨[1,2,3],[]⟩)
 rintro x1 H
 rw[JaF]at H
 rcases xB Y G H with⟨p,H,F,G,q⟩|⟨p,H,F,G,q⟩
 ·refine xT ?_
  replace H:=oI H
  refine xr ?_
  subst H
  refine xrD [] ?_
  exact xO ⟨[],[]⟩
 refine xE ?_
 have F:=Y
 refine xQ ?_
 refine xs 1 ?_
 refine xw ?_
 refine xl ?_
 refine xS ?_
 have F:=Y
 refine xQ ?_
 refine xw ?_
 refine xl ?_
 refine xS ?_
 refine xr ?_
 rcases Z3 H with⟨r1,hr1,H⟩|⟨e1,hr2,H⟩
 ·have F:=Y
  refine xQ ?_
  refine xs 2 ?_
  refine xc ⟨[4],[]⟩ (tabG 0 (cg5 hr1)) ?_
  refine xs 1 ?_
  refine xl ?_
  refine xS ?_
  have F:=Y
  refine xP [0,1,2,3,4,5,6,7,8] [43] ⟨JfO,trivial⟩ ?_
  refine xsX 4 ?_
  refine xaX ?_
  refine xsX 1 ?_
  refine xbX ?_
  refine xbX ?_
  refine xbX ?_
  refine xlX ?_
  refine xS ?_
  refine xrD [(103,[.pt 3 0]),(102,[.pt 3 0,.pt 1 0,.pt 2 0])] ?_
  obtain⟨r2,hr3,H⟩:=Ji H
  refine xD ⟨[3],[]⟩ (tabD 0 (Jn2 0 (-1) 0 r2 hr3)) ?_
  obtain⟨r3,hr4,H⟩:=Ji H
  refine xD ⟨[3,1,2],[]⟩ (tabD 1 (Jlr 0 (-1) 0 r1.1 r1.2 r3 none hr4)) ?_
  replace H:=oI H
  subst H
  exact xO ⟨[],[]⟩
 have F:=Y
 refine xQp [36,37,38] ?_
 refine xs 2 ?_
 refine xp ⟨[4],[]⟩ (tabG 0 (cg5 hr2)) ?_
 refine xS ?_
 refine xpD [(103,[.pt 3 0]),(102,[.pt 3 0,.pt 1 0,.pt 2 0])] ?_
 obtain⟨r4,hr5,H⟩:=Ji H
 refine xD ⟨[3],[]⟩ (tabD 2 (Jl9 0 0 0 e1.1 e1.2.1 e1.2.2.1 r4 hr5)) ?_
 obtain⟨r5,hr6,H⟩:=Ji H
 refine xD ⟨[3,1,2],[0]⟩ (tabD 3 (JlY e1.1 e1.2.1 e1.2.2.1 ([]:List Token) 0 r5 none hr6)) ?_
 replace H:=oI H
 subst H
 exact xO ⟨[],[]⟩
end Go.Proofs.YtfkhlbhjhdpkoaaGreatDoor
