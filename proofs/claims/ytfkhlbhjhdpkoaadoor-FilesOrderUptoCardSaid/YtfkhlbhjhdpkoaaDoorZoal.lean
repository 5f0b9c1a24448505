/- strings.SplitSeq hands back a function on three boxes. -/
import Derived.Test.YtfkhlbhjhdpkoaaDoorZoaf
import Derived.Test.YtfkhlbhjhdpkoaaDoorZoag
import Derived.Test.YtfkhlbhjhdpkoaaDoorZoak
set_option linter.unusedVariables false
set_option linter.unusedSimpArgs false
set_option maxHeartbeats 4000000
set_option maxRecDepth 100000
namespace Go.Proofs.YtfkhlbhjhdpkoaaDoor
open Go.RowKit
def Ve(a b:List UInt8)(z:Int):GI :=
 ⟨[.c (.d (.v (str a))),.c (.d (.v (str b))),.c (.d (.v (.int .i64 z)))],[],[],.ret (.c (.clo 41 [2,1,3])) [[.d (.v (str a))],[.d (.v (str b))],[.d (.v (.int .i64 z))]] []⟩
def Vf:GI→Prop:=fun g=>∃ (a b:List UInt8) (z:Int),g=Ve a b z
theorem JbR(a b:List UInt8)(z:Int):Vf (Ve a b z):=⟨a,b,z,rfl⟩
theorem JbN:∀ g,Vf g→Kd Tryd.prog 33 g:=by
 rintro _ ⟨a,b,z,rfl⟩
 refine xGn mixed [] [] [] trivial trivial trivial Tryd.func33 _ ?_
 have G:=True.intro
 have Y:=xZ y_9 <| xZ y_3 <| xZ Tryd.results33 <| Ve.eq_1
 dsimp only[Ve]
 refine xS ?_
 refine xr ?_
 refine xr ?_
 refine xOr ?_
 refine qDf [] ?_
 exact xO ⟨[1,2,3],[]⟩
theorem Jb7:Jf Tryd.prog 33∧(∀ g,Vf g→Kd Tryd.prog 33 g)∧(true=true→∀ g,Vf g→∃ val bs ts,g.out=.ret val bs ts) :=
 ⟨Jko,JbN,fun _=>by rintro _ ⟨_,_,_,rfl⟩; exact⟨_,_,_,rfl⟩⟩
def KW(a b:List UInt8):GI :=
 ⟨[.c (.d (.v (str a))),.c (.d (.v (str b)))],[],[],.ret (.c (.clo 41 [2,1,3])) [[.d (.v (str a))],[.d (.v (str b))],[.d (.v (.int .i64 0))]] []⟩
def KZ:GI→Prop:=fun g=>∃ (a b:List UInt8),g=KW a b
theorem Jac(a b:List UInt8):KZ (KW a b):=⟨a,b,rfl⟩
theorem JbO:∀ g,KZ g→Kd Tryd.prog 21 g:=by
 rintro _ ⟨a,b,rfl⟩
 refine xGn mixed [] [(33,true,Vf)] [] trivial ⟨Jb7,trivial⟩ trivial Tryd.func21 _ ?_
 have G:=True.intro
 have Y:=xZ y_9 <| xZ y_3 <| xZ Tryd.results21 <| xZ Ve.eq_1 <| KW.eq_1
 dsimp only[KW]
 refine xS ?_
 refine xr ?_
 have F:=Y
 refine xQ ?_
 refine xs 2 ?_
 refine xc ⟨[],[]⟩ (tabG 0 (JbR a b 0)) ?_
 refine xs 1 ?_
 refine xl ?_
 refine xS ?_
 refine xOr ?_
 refine qDf [] ?_
 exact xO ⟨[1,2,3],[]⟩
theorem Jaa:Jf Tryd.prog 21∧(∀ g,KZ g→Kd Tryd.prog 21 g)∧(true=true→∀ g,KZ g→∃ val bs ts,g.out=.ret val bs ts) :=
 ⟨Jj7,JbO,fun _=>by rintro _ ⟨_,_,rfl⟩; exact⟨_,_,_,rfl⟩⟩
end Go.Proofs.YtfkhlbhjhdpkoaaDoor
