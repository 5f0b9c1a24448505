/- slices.Clone of data: an own array. -/
import Derived.Test.YtfkhlbhjhdpkoaaDoorZtaf
import Derived.Test.YtfkhlbhjhdpkoaaDoorZtak
set_option linter.unusedVariables false
set_option linter.unusedSimpArgs false
set_option maxHeartbeats 4000000
set_option maxRecDepth 100000
namespace Go.Proofs.YtfkhlbhjhdpkoaaDoor
open Go.RowKit
theorem JhL{P:Program}{f sz:Nat}{l:List D}{out:GOut}(h:∀ v:Value,((l=[]∧∃ o,v=.slice o 0 0)∨∃ a n cap,v=.slice (some a) n cap)→Kq P f ⟨[.c (.ex v (.sl sz l))],[],[],out⟩):
  Kq P f ⟨[.c (.d (.sl sz l))],[],[],out⟩:=by
 intro e vs hw hc ha
 match vs,ha with
 | [v],⟨h1,_⟩ =>
  refine h v ?_ e [v] hw hc ⟨⟨rfl,h1⟩,trivial⟩
  rcases R1.slInv h1 with⟨h2,o,h3⟩|⟨_,b,o,cap,h3,_⟩
  ·exact .inl ⟨h2,o,h3⟩
  ·exact .inr ⟨_,_,_,h3⟩
noncomputable def Km(a0:List Source):Option Unit:=if a0.length * 32≤140737488355328 then some () else none
def K6(a0:List Source)(r:Unit):GI :=
 ⟨[.c (.d (.sl 2 (List.map Ja a0)))],[],[],.ret (.c (.os 1 2 0 a0.length)) [[.arr 2 (List.map Ja a0)]] []⟩
def J8:GI→Prop:=fun g=>∃ (a0:List Source) (r:Unit),Km a0=some r∧g=K6 a0 r
theorem ZR(a0:List Source)(r:Unit)(H:Km a0=some r):J8 (K6 a0 r):=⟨a0,r,H,rfl⟩
theorem JlJ:Kq Tryd.prog 29 ⟨[.c (.ex (.slice none 0 0) (.sl 2 []))],[],[],.ret (.c (.os 1 2 0 0)) [[.arr 2 []]] []⟩:=by
 refine xGn mixed [] [] [] trivial trivial trivial Tryd.func29 _ ?_
 have G:=True.intro
 have Y:=xZ y_23 <| xZ y_33 <| xZ Tryd.results29 <| Ja.eq_1
 dsimp only
 refine xS ?_
 refine xr ?_
 refine xr ?_
 refine xt ?_
 refine xr ?_
 refine xOr ?_
 refine qDf [] ?_
 exact xO ⟨[0],[]⟩
theorem JgL(a0:List Source)(x:Addr)(n c:Nat)(H:a0.length * 32≤140737488355328):Kq Tryd.prog 29 ⟨[.c (.ex (.slice (some x) n c) (.sl 2 (List.map Ja a0)))],[],[],.ret (.c (.os 1 2 0 a0.length)) [[.arr 2 (List.map Ja a0)]] []⟩:=by
 refine xGn mixed [] [] [] trivial trivial trivial Tryd.func29 _ ?_
 have G:=True.intro
 have Y:=xZ y_23 <| xZ y_33 <| xZ Tryd.results29 <| Ja.eq_1
 have F:=xZ Y H
 have A:=VF Je1 a0
 dsimp only
 refine xS ?_
 refine xr ?_
 refine xr ?_
 refine xe ?_
 refine xR ?_
 refine xOr ?_
 refine qDf [] ?_
 exact xO ⟨[1],[]⟩
theorem ZL:∀ g,J8 g→Kq Tryd.prog 29 g:=by
 rintro _ ⟨a0,r,H,rfl⟩
 unfold Km at H
 split at H
 case isFalse=>cases H
 rename_i H0
 refine JhL fun v hv=>?_
 rcases hv with⟨h0,o,rfl⟩|⟨a,n,c,rfl⟩
 ·cases o with
  | none =>
   obtain rfl:a0=[]:=by simpa using h0
   exact JlJ
  | some a=>exact JgL a0 a 0 0 H0
 ·exact JgL a0 a n c H0
theorem ZP:Jg Tryd.prog 29∧(∀ g,J8 g→Kq Tryd.prog 29 g)∧(true=true→∀ g,J8 g→∃ val bs ts,g.out=.ret val bs ts) :=
 ⟨Jl2,ZL,fun _=>by rintro _ ⟨_,_,_,rfl⟩; exact⟨_,_,_,rfl⟩⟩
noncomputable def Ks(a0:List Edit):Option Unit:=if a0.length * 40≤140737488355328 then some () else none
def K9(a0:List Edit)(r:Unit):GI :=
 ⟨[.c (.d (.sl 4 (List.map Jb a0)))],[],[],.ret (.c (.os 1 4 0 a0.length)) [[.arr 4 (List.map Jb a0)]] []⟩
def Kd:GI→Prop:=fun g=>∃ (a0:List Edit) (r:Unit),Ks a0=some r∧g=K9 a0 r
theorem Z5(a0:List Edit)(r:Unit)(H:Ks a0=some r):Kd (K9 a0 r):=⟨a0,r,H,rfl⟩
theorem Jlr:Kq Tryd.prog 30 ⟨[.c (.ex (.slice none 0 0) (.sl 4 []))],[],[],.ret (.c (.os 1 4 0 0)) [[.arr 4 []]] []⟩:=by
 refine xGn mixed [] [] [] trivial trivial trivial Tryd.func30 _ ?_
 have G:=True.intro
 have Y:=xZ y_24 <| xZ y_41 <| xZ Tryd.results30 <| Jb.eq_1
 dsimp only
 refine xS ?_
 refine xr ?_
 refine xr ?_
 refine xt ?_
 refine xr ?_
 refine xOr ?_
 refine qDf [] ?_
 exact xO ⟨[0],[]⟩
theorem Jgz(a0:List Edit)(x:Addr)(n c:Nat)(H:a0.length * 40≤140737488355328):Kq Tryd.prog 30 ⟨[.c (.ex (.slice (some x) n c) (.sl 4 (List.map Jb a0)))],[],[],.ret (.c (.os 1 4 0 a0.length)) [[.arr 4 (List.map Jb a0)]] []⟩:=by
 refine xGn mixed [] [] [] trivial trivial trivial Tryd.func30 _ ?_
 have G:=True.intro
 have Y:=xZ y_24 <| xZ y_41 <| xZ Tryd.results30 <| Jb.eq_1
 have F:=xZ Y H
 have A:=VF Jbi a0
 dsimp only
 refine xS ?_
 refine xr ?_
 refine xr ?_
 refine xe ?_
 refine xR ?_
 refine xOr ?_
 refine qDf [] ?_
 exact xO ⟨[1],[]⟩
theorem ZS:∀ g,Kd g→Kq Tryd.prog 30 g:=by
 rintro _ ⟨a0,r,H,rfl⟩
 unfold Ks at H
 split at H
 case isFalse=>cases H
 rename_i H0
 refine JhL fun v hv=>?_
 rcases hv with⟨h0,o,rfl⟩|⟨a,n,c,rfl⟩
 ·cases o with
  | none =>
   obtain rfl:a0=[]:=by simpa using h0
   exact Jlr
  | some a=>exact Jgz a0 a 0 0 H0
 ·exact Jgz a0 a n c H0
theorem Jab:Jg Tryd.prog 30∧(∀ g,Kd g→Kq Tryd.prog 30 g)∧(true=true→∀ g,Kd g→∃ val bs ts,g.out=.ret val bs ts) :=
 ⟨Jmz,ZS,fun _=>by rintro _ ⟨_,_,_,rfl⟩; exact⟨_,_,_,rfl⟩⟩
end Go.Proofs.YtfkhlbhjhdpkoaaDoor
