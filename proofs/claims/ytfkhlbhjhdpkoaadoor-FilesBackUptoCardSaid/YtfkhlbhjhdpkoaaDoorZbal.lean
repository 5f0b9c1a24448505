/- strings.SplitSeq hands back a function on three boxes. -/
import Derived.Test.YtfkhlbhjhdpkoaaDoorZbaf
import Derived.Test.YtfkhlbhjhdpkoaaDoorZbag
import Derived.Test.YtfkhlbhjhdpkoaaDoorZbak
set_option linter.unusedVariables false
set_option linter.unusedSimpArgs false
set_option maxHeartbeats 4000000
set_option maxRecDepth 100000
namespace Go.Proofs.YtfkhlbhjhdpkoaaDoor
open Go.RowKit
def Va(a b:List UInt8)(z:Int):GI :=
 ⟨[.c (.d (.v (str a))),.c (.d (.v (str b))),.c (.d (.v (.int .i64 z)))],[],[],.ret (.c (.clo 41 [2,1,3])) [[.d (.v (str a))],[.d (.v (str b))],[.d (.v (.int .i64 z))]] []⟩
def K8:GI→Prop:=fun g=>∃ (a b:List UInt8) (z:Int),g=Va a b z
theorem JbP(a b:List UInt8)(z:Int):K8 (Va a b z):=⟨a,b,z,rfl⟩
theorem Jbx:∀ g,K8 g→JP Tryd.prog 33 g:=by
 rintro _ ⟨a,b,z,rfl⟩
 refine xGn mixed [] [] [] trivial trivial trivial Tryd.func33 _ ?_
 have G:=True.intro
 have Y:=xZ y_9 <| xZ y_3 <| xZ Tryd.results33 <| Va.eq_1
 dsimp only[Va]
 refine xS ?_
 refine xr ?_
 refine xr ?_
 refine xOr ?_
 refine qDf [] ?_
 exact xO ⟨[1,2,3],[]⟩
theorem Jb0:Je Tryd.prog 33∧(∀ g,K8 g→JP Tryd.prog 33 g)∧(true=true→∀ g,K8 g→∃ val bs ts,g.out=.ret val bs ts) :=
 ⟨JjO,Jbx,fun _=>by rintro _ ⟨_,_,_,rfl⟩; exact⟨_,_,_,rfl⟩⟩
def KT(a b:List UInt8):GI :=
 ⟨[.c (.d (.v (str a))),.c (.d (.v (str b)))],[],[],.ret (.c (.clo 41 [2,1,3])) [[.d (.v (str a))],[.d (.v (str b))],[.d (.v (.int .i64 0))]] []⟩
def KS:GI→Prop:=fun g=>∃ (a b:List UInt8),g=KT a b
theorem Z3(a b:List UInt8):KS (KT a b):=⟨a,b,rfl⟩
theorem Jbw:∀ g,KS g→JP Tryd.prog 21 g:=by
 rintro _ ⟨a,b,rfl⟩
 refine xGn mixed [] [(33,true,K8)] [] trivial ⟨Jb0,trivial⟩ trivial Tryd.func21 _ ?_
 have G:=True.intro
 have Y:=xZ y_9 <| xZ y_3 <| xZ Tryd.results21 <| xZ Va.eq_1 <| KT.eq_1
 dsimp only[KT]
 refine xS ?_
 refine xr ?_
 have F:=Y
 refine xQ ?_
 refine xs 2 ?_
 refine xc ⟨[],[]⟩ (tabG 0 (JbP a b 0)) ?_
 refine xs 1 ?_
 refine xl ?_
 refine xS ?_
 refine xOr ?_
 refine qDf [] ?_
 exact xO ⟨[1,2,3],[]⟩
theorem Z2:Je Tryd.prog 21∧(∀ g,KS g→JP Tryd.prog 21 g)∧(true=true→∀ g,KS g→∃ val bs ts,g.out=.ret val bs ts) :=
 ⟨Jju,Jbw,fun _=>by rintro _ ⟨_,_,rfl⟩; exact⟨_,_,_,rfl⟩⟩
end Go.Proofs.YtfkhlbhjhdpkoaaDoor
