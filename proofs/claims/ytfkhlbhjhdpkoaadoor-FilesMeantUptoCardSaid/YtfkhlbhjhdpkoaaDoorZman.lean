/- slices.Clone of data: an own array. -/
import Derived.Test.YtfkhlbhjhdpkoaaDoorZmaf
import Derived.Test.YtfkhlbhjhdpkoaaDoorZmak
set_option linter.unusedVariables false
set_option linter.unusedSimpArgs false
set_option maxHeartbeats 4000000
set_option maxRecDepth 100000
namespace Go.Proofs.YtfkhlbhjhdpkoaaDoor
open Go.RowKit
theorem JfG{P:Program}{f sz:Nat}{l:List D}{out:GOut}(h:∀ v:Value,((l=[]∧∃ o,v=.slice o 0 0)∨∃ a n cap,v=.slice (some a) n cap)→JP P f ⟨[.c (.ex v (.sl sz l))],[],[],out⟩):
  JP P f ⟨[.c (.d (.sl sz l))],[],[],out⟩:=by
 intro e vs hw hc ha
 match vs,ha with
 | [v],⟨h1,_⟩ =>
  refine h v ?_ e [v] hw hc ⟨⟨rfl,h1⟩,trivial⟩
  rcases R1.slInv h1 with⟨h2,o,h3⟩|⟨_,b,o,cap,h3,_⟩
  ·exact .inl ⟨h2,o,h3⟩
  ·exact .inr ⟨_,_,_,h3⟩
noncomputable def J9(a0:List Source):Option Unit:=if a0.length * 32≤140737488355328 then some () else none
def Ku(a0:List Source)(r:Unit):GI :=
 ⟨[.c (.d (.sl 2 (List.map Jd a0)))],[],[],.ret (.c (.os 1 2 0 a0.length)) [[.arr 2 (List.map Jd a0)]] []⟩
def JB:GI→Prop:=fun g=>∃ (a0:List Source) (r:Unit),J9 a0=some r∧g=Ku a0 r
theorem XP(a0:List Source)(r:Unit)(H:J9 a0=some r):JB (Ku a0 r):=⟨a0,r,H,rfl⟩
theorem JiI:JP Tryd.prog 29 ⟨[.c (.ex (.slice none 0 0) (.sl 2 []))],[],[],.ret (.c (.os 1 2 0 0)) [[.arr 2 []]] []⟩:=by
 refine xGn mixed [] [] [] trivial trivial trivial Tryd.func29 _ ?_
 have G:=True.intro
 have Y:=xZ y_23 <| xZ y_33 <| xZ Tryd.results29 <| Jd.eq_1
 dsimp only
 refine xS ?_
 refine xr ?_
 refine xr ?_
 refine xt ?_
 refine xr ?_
 refine xOr ?_
 refine qDf [] ?_
 exact xO ⟨[0],[]⟩
theorem Jd6(a0:List Source)(x:Addr)(n c:Nat)(H:a0.length * 32≤140737488355328):JP Tryd.prog 29 ⟨[.c (.ex (.slice (some x) n c) (.sl 2 (List.map Jd a0)))],[],[],.ret (.c (.os 1 2 0 a0.length)) [[.arr 2 (List.map Jd a0)]] []⟩:=by
 refine xGn mixed [] [] [] trivial trivial trivial Tryd.func29 _ ?_
 have G:=True.intro
 have Y:=xZ y_23 <| xZ y_33 <| xZ Tryd.results29 <| Jd.eq_1
 have F:=xZ Y H
 have A:=Jb2 JgT a0
 dsimp only
 refine xS ?_
 refine xr ?_
 refine xr ?_
 refine xe ?_
 refine xR ?_
 refine xOr ?_
 refine qDf [] ?_
 exact xO ⟨[1],[]⟩
theorem Xt:∀ g,JB g→JP Tryd.prog 29 g:=by
 rintro _ ⟨a0,r,H,rfl⟩
 unfold J9 at H
 split at H
 case isFalse=>cases H
 rename_i H0
 refine JfG fun v hv=>?_
 rcases hv with⟨h0,o,rfl⟩|⟨a,n,c,rfl⟩
 ·cases o with
  | none =>
   obtain rfl:a0=[]:=by simpa using h0
   exact JiI
  | some a=>exact Jd6 a0 a 0 0 H0
 ·exact Jd6 a0 a n c H0
theorem XL:Je Tryd.prog 29∧(∀ g,JB g→JP Tryd.prog 29 g)∧(true=true→∀ g,JB g→∃ val bs ts,g.out=.ret val bs ts) :=
 ⟨Ji5,Xt,fun _=>by rintro _ ⟨_,_,_,rfl⟩; exact⟨_,_,_,rfl⟩⟩
noncomputable def Kd(a0:List Edit):Option Unit:=if a0.length * 40≤140737488355328 then some () else none
def KE(a0:List Edit)(r:Unit):GI :=
 ⟨[.c (.d (.sl 4 (List.map Ja a0)))],[],[],.ret (.c (.os 1 4 0 a0.length)) [[.arr 4 (List.map Ja a0)]] []⟩
def JG:GI→Prop:=fun g=>∃ (a0:List Edit) (r:Unit),Kd a0=some r∧g=KE a0 r
theorem XV(a0:List Edit)(r:Unit)(H:Kd a0=some r):JG (KE a0 r):=⟨a0,r,H,rfl⟩
theorem JiO:JP Tryd.prog 30 ⟨[.c (.ex (.slice none 0 0) (.sl 4 []))],[],[],.ret (.c (.os 1 4 0 0)) [[.arr 4 []]] []⟩:=by
 refine xGn mixed [] [] [] trivial trivial trivial Tryd.func30 _ ?_
 have G:=True.intro
 have Y:=xZ y_24 <| xZ y_41 <| xZ Tryd.results30 <| Ja.eq_1
 dsimp only
 refine xS ?_
 refine xr ?_
 refine xr ?_
 refine xt ?_
 refine xr ?_
 refine xOr ?_
 refine qDf [] ?_
 exact xO ⟨[0],[]⟩
theorem JeA(a0:List Edit)(x:Addr)(n c:Nat)(H:a0.length * 40≤140737488355328):JP Tryd.prog 30 ⟨[.c (.ex (.slice (some x) n c) (.sl 4 (List.map Ja a0)))],[],[],.ret (.c (.os 1 4 0 a0.length)) [[.arr 4 (List.map Ja a0)]] []⟩:=by
 refine xGn mixed [] [] [] trivial trivial trivial Tryd.func30 _ ?_
 have G:=True.intro
 have Y:=xZ y_24 <| xZ y_41 <| xZ Tryd.results30 <| Ja.eq_1
 have F:=xZ Y H
 have A:=Jb2 Jiu a0
 dsimp only
 refine xS ?_
 refine xr ?_
 refine xr ?_
 refine xe ?_
 refine xR ?_
 refine xOr ?_
 refine qDf [] ?_
 exact xO ⟨[1],[]⟩
theorem XH:∀ g,JG g→JP Tryd.prog 30 g:=by
 rintro _ ⟨a0,r,H,rfl⟩
 unfold Kd at H
 split at H
 case isFalse=>cases H
 rename_i H0
 refine JfG fun v hv=>?_
 rcases hv with⟨h0,o,rfl⟩|⟨a,n,c,rfl⟩
 ·cases o with
  | none =>
   obtain rfl:a0=[]:=by simpa using h0
   exact JiO
  | some a=>exact JeA a0 a 0 0 H0
 ·exact JeA a0 a n c H0
theorem XR:Je Tryd.prog 30∧(∀ g,JG g→JP Tryd.prog 30 g)∧(true=true→∀ g,JG g→∃ val bs ts,g.out=.ret val bs ts) :=
 ⟨Jjw,XH,fun _=>by rintro _ ⟨_,_,_,rfl⟩; exact⟨_,_,_,rfl⟩⟩
end Go.Proofs.YtfkhlbhjhdpkoaaDoor
