/- strings.SplitSeq hands back a function on three boxes. -/
import Derived.Test.YtfkhlbhjhdpkoaaDoorZmaf
import Derived.Test.YtfkhlbhjhdpkoaaDoorZmag
import Derived.Test.YtfkhlbhjhdpkoaaDoorZmak
set_option linter.unusedVariables false
set_option linter.unusedSimpArgs false
set_option maxHeartbeats 4000000
set_option maxRecDepth 100000
namespace Go.Proofs.YtfkhlbhjhdpkoaaDoor
open Go.RowKit
def K8(a b:List UInt8)(z:Int):GI :=
 ⟨[.c (.d (.v (str a))),.c (.d (.v (str b))),.c (.d (.v (.int .i64 z)))],[],[],.ret (.c (.clo 41 [2,1,3])) [[.d (.v (str a))],[.d (.v (str b))],[.d (.v (.int .i64 z))]] []⟩
def Vb:GI→Prop:=fun g=>∃ (a b:List UInt8) (z:Int),g=K8 a b z
theorem JbJ(a b:List UInt8)(z:Int):Vb (K8 a b z):=⟨a,b,z,rfl⟩
theorem Jbw:∀ g,Vb g→JP Tryd.prog 33 g:=by
 rintro _ ⟨a,b,z,rfl⟩
 refine xGn mixed [] [] [] trivial trivial trivial Tryd.func33 _ ?_
 have G:=True.intro
 have Y:=xZ y_9 <| xZ y_3 <| xZ Tryd.results33 <| K8.eq_1
 dsimp only[K8]
 refine xS ?_
 refine xr ?_
 refine xr ?_
 refine xOr ?_
 refine qDf [] ?_
 exact xO ⟨[1,2,3],[]⟩
theorem JbT:Je Tryd.prog 33∧(∀ g,Vb g→JP Tryd.prog 33 g)∧(true=true→∀ g,Vb g→∃ val bs ts,g.out=.ret val bs ts) :=
 ⟨Jjf,Jbw,fun _=>by rintro _ ⟨_,_,_,rfl⟩; exact⟨_,_,_,rfl⟩⟩
def KQ(a b:List UInt8):GI :=
 ⟨[.c (.d (.v (str a))),.c (.d (.v (str b)))],[],[],.ret (.c (.clo 41 [2,1,3])) [[.d (.v (str a))],[.d (.v (str b))],[.d (.v (.int .i64 0))]] []⟩
def KR:GI→Prop:=fun g=>∃ (a b:List UInt8),g=KQ a b
theorem Z2(a b:List UInt8):KR (KQ a b):=⟨a,b,rfl⟩
theorem Jbx:∀ g,KR g→JP Tryd.prog 21 g:=by
 rintro _ ⟨a,b,rfl⟩
 refine xGn mixed [] [(33,true,Vb)] [] trivial ⟨JbT,trivial⟩ trivial Tryd.func21 _ ?_
 have G:=True.intro
 have Y:=xZ y_9 <| xZ y_3 <| xZ Tryd.results21 <| xZ K8.eq_1 <| KQ.eq_1
 dsimp only[KQ]
 refine xS ?_
 refine xr ?_
 have F:=Y
 refine xQ ?_
 refine xs 2 ?_
 refine xc ⟨[],[]⟩ (tabG 0 (JbJ a b 0)) ?_
 refine xs 1 ?_
 refine xl ?_
 refine xS ?_
 refine xOr ?_
 refine qDf [] ?_
 exact xO ⟨[1,2,3],[]⟩
theorem ZY:Je Tryd.prog 21∧(∀ g,KR g→JP Tryd.prog 21 g)∧(true=true→∀ g,KR g→∃ val bs ts,g.out=.ret val bs ts) :=
 ⟨Ji6,Jbx,fun _=>by rintro _ ⟨_,_,rfl⟩; exact⟨_,_,_,rfl⟩⟩
end Go.Proofs.YtfkhlbhjhdpkoaaDoor
