/- slices.Clone of data: an own array. -/
import Derived.Test.YtfkhlbhjhdpkoaaDoorZbaf
import Derived.Test.YtfkhlbhjhdpkoaaDoorZbak
set_option linter.unusedVariables false
set_option linter.unusedSimpArgs false
set_option maxHeartbeats 4000000
set_option maxRecDepth 100000
namespace Go.Proofs.YtfkhlbhjhdpkoaaDoor
open Go.RowKit
theorem JfC{P:Program}{f sz:Nat}{l:List D}{out:GOut}(h:∀ v:Value,((l=[]∧∃ o,v=.slice o 0 0)∨∃ a n cap,v=.slice (some a) n cap)→JP P f ⟨[.c (.ex v (.sl sz l))],[],[],out⟩):
  JP P f ⟨[.c (.d (.sl sz l))],[],[],out⟩:=by
 intro e vs hw hc ha
 match vs,ha with
 | [v],⟨h1,_⟩ =>
  refine h v ?_ e [v] hw hc ⟨⟨rfl,h1⟩,trivial⟩
  rcases R1.slInv h1 with⟨h2,o,h3⟩|⟨_,b,o,cap,h3,_⟩
  ·exact .inl ⟨h2,o,h3⟩
  ·exact .inr ⟨_,_,_,h3⟩
noncomputable def JN(a0:List Source):Option Unit:=if a0.length * 32≤140737488355328 then some () else none
def Kw(a0:List Source)(r:Unit):GI :=
 ⟨[.c (.d (.sl 2 (List.map Jb a0)))],[],[],.ret (.c (.os 1 2 0 a0.length)) [[.arr 2 (List.map Jb a0)]] []⟩
def JE:GI→Prop:=fun g=>∃ (a0:List Source) (r:Unit),JN a0=some r∧g=Kw a0 r
theorem XG(a0:List Source)(r:Unit)(H:JN a0=some r):JE (Kw a0 r):=⟨a0,r,H,rfl⟩
theorem JiQ:JP Tryd.prog 29 ⟨[.c (.ex (.slice none 0 0) (.sl 2 []))],[],[],.ret (.c (.os 1 2 0 0)) [[.arr 2 []]] []⟩:=by
 refine xGn mixed [] [] [] trivial trivial trivial Tryd.func29 _ ?_
 have G:=True.intro
 have Y:=xZ y_23 <| xZ y_33 <| xZ Tryd.results29 <| Jb.eq_1
 dsimp only
 refine xS ?_
 refine xr ?_
 refine xr ?_
 refine xt ?_
 refine xr ?_
 refine xOr ?_
 refine qDf [] ?_
 exact xO ⟨[0],[]⟩
theorem Jd7(a0:List Source)(x:Addr)(n c:Nat)(H:a0.length * 32≤140737488355328):JP Tryd.prog 29 ⟨[.c (.ex (.slice (some x) n c) (.sl 2 (List.map Jb a0)))],[],[],.ret (.c (.os 1 2 0 a0.length)) [[.arr 2 (List.map Jb a0)]] []⟩:=by
 refine xGn mixed [] [] [] trivial trivial trivial Tryd.func29 _ ?_
 have G:=True.intro
 have Y:=xZ y_23 <| xZ y_33 <| xZ Tryd.results29 <| Jb.eq_1
 have F:=xZ Y H
 have A:=Jb6 Jho a0
 dsimp only
 refine xS ?_
 refine xr ?_
 refine xr ?_
 refine xe ?_
 refine xR ?_
 refine xOr ?_
 refine qDf [] ?_
 exact xO ⟨[1],[]⟩
theorem Xw:∀ g,JE g→JP Tryd.prog 29 g:=by
 rintro _ ⟨a0,r,H,rfl⟩
 unfold JN at H
 split at H
 case isFalse=>cases H
 rename_i H0
 refine JfC fun v hv=>?_
 rcases hv with⟨h0,o,rfl⟩|⟨a,n,c,rfl⟩
 ·cases o with
  | none =>
   obtain rfl:a0=[]:=by simpa using h0
   exact JiQ
  | some a=>exact Jd7 a0 a 0 0 H0
 ·exact Jd7 a0 a n c H0
theorem XM:Je Tryd.prog 29∧(∀ g,JE g→JP Tryd.prog 29 g)∧(true=true→∀ g,JE g→∃ val bs ts,g.out=.ret val bs ts) :=
 ⟨JjS,Xw,fun _=>by rintro _ ⟨_,_,_,rfl⟩; exact⟨_,_,_,rfl⟩⟩
noncomputable def JT(a0:List Edit):Option Unit:=if a0.length * 40≤140737488355328 then some () else none
def KF(a0:List Edit)(r:Unit):GI :=
 ⟨[.c (.d (.sl 4 (List.map Ja a0)))],[],[],.ret (.c (.os 1 4 0 a0.length)) [[.arr 4 (List.map Ja a0)]] []⟩
def JI:GI→Prop:=fun g=>∃ (a0:List Edit) (r:Unit),JT a0=some r∧g=KF a0 r
theorem XX(a0:List Edit)(r:Unit)(H:JT a0=some r):JI (KF a0 r):=⟨a0,r,H,rfl⟩
theorem Ji2:JP Tryd.prog 30 ⟨[.c (.ex (.slice none 0 0) (.sl 4 []))],[],[],.ret (.c (.os 1 4 0 0)) [[.arr 4 []]] []⟩:=by
 refine xGn mixed [] [] [] trivial trivial trivial Tryd.func30 _ ?_
 have G:=True.intro
 have Y:=xZ y_24 <| xZ y_41 <| xZ Tryd.results30 <| Ja.eq_1
 dsimp only
 refine xS ?_
 refine xr ?_
 refine xr ?_
 refine xt ?_
 refine xr ?_
 refine xOr ?_
 refine qDf [] ?_
 exact xO ⟨[0],[]⟩
theorem Jd3(a0:List Edit)(x:Addr)(n c:Nat)(H:a0.length * 40≤140737488355328):JP Tryd.prog 30 ⟨[.c (.ex (.slice (some x) n c) (.sl 4 (List.map Ja a0)))],[],[],.ret (.c (.os 1 4 0 a0.length)) [[.arr 4 (List.map Ja a0)]] []⟩:=by
 refine xGn mixed [] [] [] trivial trivial trivial Tryd.func30 _ ?_
 have G:=True.intro
 have Y:=xZ y_24 <| xZ y_41 <| xZ Tryd.results30 <| Ja.eq_1
 have F:=xZ Y H
 have A:=Jb6 JiC a0
 dsimp only
 refine xS ?_
 refine xr ?_
 refine xr ?_
 refine xe ?_
 refine xR ?_
 refine xOr ?_
 refine qDf [] ?_
 exact xO ⟨[1],[]⟩
theorem XD:∀ g,JI g→JP Tryd.prog 30 g:=by
 rintro _ ⟨a0,r,H,rfl⟩
 unfold JT at H
 split at H
 case isFalse=>cases H
 rename_i H0
 refine JfC fun v hv=>?_
 rcases hv with⟨h0,o,rfl⟩|⟨a,n,c,rfl⟩
 ·cases o with
  | none =>
   obtain rfl:a0=[]:=by simpa using h0
   exact Ji2
  | some a=>exact Jd3 a0 a 0 0 H0
 ·exact Jd3 a0 a n c H0
theorem XT:Je Tryd.prog 30∧(∀ g,JI g→JP Tryd.prog 30 g)∧(true=true→∀ g,JI g→∃ val bs ts,g.out=.ret val bs ts) :=
 ⟨Jjo,XD,fun _=>by rintro _ ⟨_,_,_,rfl⟩; exact⟨_,_,_,rfl⟩⟩
end Go.Proofs.YtfkhlbhjhdpkoaaDoor
