/- slices.Clone of data: an own array. -/
import Derived.Test.YtfkhlbhjhdpkoaaDoorZoaf
import Derived.Test.YtfkhlbhjhdpkoaaDoorZoak
set_option linter.unusedVariables false
set_option linter.unusedSimpArgs false
set_option maxHeartbeats 4000000
set_option maxRecDepth 100000
namespace Go.Proofs.YtfkhlbhjhdpkoaaDoor
open Go.RowKit
theorem Jf7{P:Program}{f sz:Nat}{l:List D}{out:GOut}(h:∀ v:Value,((l=[]∧∃ o,v=.slice o 0 0)∨∃ a n cap,v=.slice (some a) n cap)→Kd P f ⟨[.c (.ex v (.sl sz l))],[],[],out⟩):
  Kd P f ⟨[.c (.d (.sl sz l))],[],[],out⟩:=by
 intro e vs hw hc ha
 match vs,ha with
 | [v],⟨h1,_⟩ =>
  refine h v ?_ e [v] hw hc ⟨⟨rfl,h1⟩,trivial⟩
  rcases R1.slInv h1 with⟨h2,o,h3⟩|⟨_,b,o,cap,h3,_⟩
  ·exact .inl ⟨h2,o,h3⟩
  ·exact .inr ⟨_,_,_,h3⟩
noncomputable def Kb(a0:List Source):Option Unit:=if a0.length * 32≤140737488355328 then some () else none
def KI(a0:List Source)(r:Unit):GI :=
 ⟨[.c (.d (.sl 2 (List.map Jb a0)))],[],[],.ret (.c (.os 1 2 0 a0.length)) [[.arr 2 (List.map Jb a0)]] []⟩
def JY:GI→Prop:=fun g=>∃ (a0:List Source) (r:Unit),Kb a0=some r∧g=KI a0 r
theorem XW(a0:List Source)(r:Unit)(H:Kb a0=some r):JY (KI a0 r):=⟨a0,r,H,rfl⟩
theorem Jji:Kd Tryd.prog 29 ⟨[.c (.ex (.slice none 0 0) (.sl 2 []))],[],[],.ret (.c (.os 1 2 0 0)) [[.arr 2 []]] []⟩:=by
 refine xGn mixed [] [] [] trivial trivial trivial Tryd.func29 _ ?_
 have G:=True.intro
 have Y:=xZ y_23 <| xZ y_33 <| xZ Tryd.results29 <| Jb.eq_1
 dsimp only
 refine xS ?_
 refine xr ?_
 refine xr ?_
 refine xt ?_
 refine xr ?_
 refine xOr ?_
 refine qDf [] ?_
 exact xO ⟨[0],[]⟩
theorem Jek(a0:List Source)(x:Addr)(n c:Nat)(H:a0.length * 32≤140737488355328):Kd Tryd.prog 29 ⟨[.c (.ex (.slice (some x) n c) (.sl 2 (List.map Jb a0)))],[],[],.ret (.c (.os 1 2 0 a0.length)) [[.arr 2 (List.map Jb a0)]] []⟩:=by
 refine xGn mixed [] [] [] trivial trivial trivial Tryd.func29 _ ?_
 have G:=True.intro
 have Y:=xZ y_23 <| xZ y_33 <| xZ Tryd.results29 <| Jb.eq_1
 have F:=xZ Y H
 have A:=Ja5 Jhy a0
 dsimp only
 refine xS ?_
 refine xr ?_
 refine xr ?_
 refine xe ?_
 refine xR ?_
 refine xOr ?_
 refine qDf [] ?_
 exact xO ⟨[1],[]⟩
theorem XB:∀ g,JY g→Kd Tryd.prog 29 g:=by
 rintro _ ⟨a0,r,H,rfl⟩
 unfold Kb at H
 split at H
 case isFalse=>cases H
 rename_i H0
 refine Jf7 fun v hv=>?_
 rcases hv with⟨h0,o,rfl⟩|⟨a,n,c,rfl⟩
 ·cases o with
  | none =>
   obtain rfl:a0=[]:=by simpa using h0
   exact Jji
  | some a=>exact Jek a0 a 0 0 H0
 ·exact Jek a0 a n c H0
theorem XS:Jf Tryd.prog 29∧(∀ g,JY g→Kd Tryd.prog 29 g)∧(true=true→∀ g,JY g→∃ val bs ts,g.out=.ret val bs ts) :=
 ⟨Jj0,XB,fun _=>by rintro _ ⟨_,_,_,rfl⟩; exact⟨_,_,_,rfl⟩⟩
noncomputable def Ke(a0:List Edit):Option Unit:=if a0.length * 40≤140737488355328 then some () else none
def KL(a0:List Edit)(r:Unit):GI :=
 ⟨[.c (.d (.sl 4 (List.map Ja a0)))],[],[],.ret (.c (.os 1 4 0 a0.length)) [[.arr 4 (List.map Ja a0)]] []⟩
def J4:GI→Prop:=fun g=>∃ (a0:List Edit) (r:Unit),Ke a0=some r∧g=KL a0 r
theorem X1(a0:List Edit)(r:Unit)(H:Ke a0=some r):J4 (KL a0 r):=⟨a0,r,H,rfl⟩
theorem Jjl:Kd Tryd.prog 30 ⟨[.c (.ex (.slice none 0 0) (.sl 4 []))],[],[],.ret (.c (.os 1 4 0 0)) [[.arr 4 []]] []⟩:=by
 refine xGn mixed [] [] [] trivial trivial trivial Tryd.func30 _ ?_
 have G:=True.intro
 have Y:=xZ y_24 <| xZ y_41 <| xZ Tryd.results30 <| Ja.eq_1
 dsimp only
 refine xS ?_
 refine xr ?_
 refine xr ?_
 refine xt ?_
 refine xr ?_
 refine xOr ?_
 refine qDf [] ?_
 exact xO ⟨[0],[]⟩
theorem Jeu(a0:List Edit)(x:Addr)(n c:Nat)(H:a0.length * 40≤140737488355328):Kd Tryd.prog 30 ⟨[.c (.ex (.slice (some x) n c) (.sl 4 (List.map Ja a0)))],[],[],.ret (.c (.os 1 4 0 a0.length)) [[.arr 4 (List.map Ja a0)]] []⟩:=by
 refine xGn mixed [] [] [] trivial trivial trivial Tryd.func30 _ ?_
 have G:=True.intro
 have Y:=xZ y_24 <| xZ y_41 <| xZ Tryd.results30 <| Ja.eq_1
 have F:=xZ Y H
 have A:=Ja5 JfY a0
 dsimp only
 refine xS ?_
 refine xr ?_
 refine xr ?_
 refine xe ?_
 refine xR ?_
 refine xOr ?_
 refine qDf [] ?_
 exact xO ⟨[1],[]⟩
theorem XP:∀ g,J4 g→Kd Tryd.prog 30 g:=by
 rintro _ ⟨a0,r,H,rfl⟩
 unfold Ke at H
 split at H
 case isFalse=>cases H
 rename_i H0
 refine Jf7 fun v hv=>?_
 rcases hv with⟨h0,o,rfl⟩|⟨a,n,c,rfl⟩
 ·cases o with
  | none =>
   obtain rfl:a0=[]:=by simpa using h0
   exact Jjl
  | some a=>exact Jeu a0 a 0 0 H0
 ·exact Jeu a0 a n c H0
theorem XY:Jf Tryd.prog 30∧(∀ g,J4 g→Kd Tryd.prog 30 g)∧(true=true→∀ g,J4 g→∃ val bs ts,g.out=.ret val bs ts) :=
 ⟨Jj6,XP,fun _=>by rintro _ ⟨_,_,_,rfl⟩; exact⟨_,_,_,rfl⟩⟩
end Go.Proofs.YtfkhlbhjhdpkoaaDoor
