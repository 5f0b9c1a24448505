/- strings.SplitSeq hands back a function on three boxes. -/
import Derived.Test.YtfkhlbhjhdpkoaaDoorZtaf
import Derived.Test.YtfkhlbhjhdpkoaaDoorZtag
import Derived.Test.YtfkhlbhjhdpkoaaDoorZtak
set_option linter.unusedVariables false
set_option linter.unusedSimpArgs false
set_option maxHeartbeats 4000000
set_option maxRecDepth 100000
namespace Go.Proofs.YtfkhlbhjhdpkoaaDoor
open Go.RowKit
def VQ(a b:List UInt8)(z:Int):GI :=
 ⟨[.c (.d (.v (str a))),.c (.d (.v (str b))),.c (.d (.v (.int .i64 z)))],[],[],.ret (.c (.clo 41 [2,1,3])) [[.d (.v (str a))],[.d (.v (str b))],[.d (.v (.int .i64 z))]] []⟩
def VN:GI→Prop:=fun g=>∃ (a b:List UInt8) (z:Int),g=VQ a b z
theorem Jd0(a b:List UInt8)(z:Int):VN (VQ a b z):=⟨a,b,z,rfl⟩
theorem Jdw:∀ g,VN g→Kq Tryd.prog 33 g:=by
 rintro _ ⟨a,b,z,rfl⟩
 refine xGn mixed [] [] [] trivial trivial trivial Tryd.func33 _ ?_
 have G:=True.intro
 have Y:=xZ y_9 <| xZ y_3 <| xZ Tryd.results33 <| VQ.eq_1
 dsimp only[VQ]
 refine xS ?_
 refine xr ?_
 refine xr ?_
 refine xOr ?_
 refine qDf [] ?_
 exact xO ⟨[1,2,3],[]⟩
theorem JdJ:Jg Tryd.prog 33∧(∀ g,VN g→Kq Tryd.prog 33 g)∧(true=true→∀ g,VN g→∃ val bs ts,g.out=.ret val bs ts) :=
 ⟨Jmx,Jdw,fun _=>by rintro _ ⟨_,_,_,rfl⟩; exact⟨_,_,_,rfl⟩⟩
def Vp(a b:List UInt8):GI :=
 ⟨[.c (.d (.v (str a))),.c (.d (.v (str b)))],[],[],.ret (.c (.clo 41 [2,1,3])) [[.d (.v (str a))],[.d (.v (str b))],[.d (.v (.int .i64 0))]] []⟩
def Vq:GI→Prop:=fun g=>∃ (a b:List UInt8),g=Vp a b
theorem Jbw(a b:List UInt8):Vq (Vp a b):=⟨a,b,rfl⟩
theorem Jdv:∀ g,Vq g→Kq Tryd.prog 21 g:=by
 rintro _ ⟨a,b,rfl⟩
 refine xGn mixed [] [(33,true,VN)] [] trivial ⟨JdJ,trivial⟩ trivial Tryd.func21 _ ?_
 have G:=True.intro
 have Y:=xZ y_9 <| xZ y_3 <| xZ Tryd.results21 <| xZ VQ.eq_1 <| Vp.eq_1
 dsimp only[Vp]
 refine xS ?_
 refine xr ?_
 have F:=Y
 refine xQ ?_
 refine xs 2 ?_
 refine xc ⟨[],[]⟩ (tabG 0 (Jd0 a b 0)) ?_
 refine xs 1 ?_
 refine xl ?_
 refine xS ?_
 refine xOr ?_
 refine qDf [] ?_
 exact xO ⟨[1,2,3],[]⟩
theorem Jbx:Jg Tryd.prog 21∧(∀ g,Vq g→Kq Tryd.prog 21 g)∧(true=true→∀ g,Vq g→∃ val bs ts,g.out=.ret val bs ts) :=
 ⟨Jme,Jdv,fun _=>by rintro _ ⟨_,_,rfl⟩; exact⟨_,_,_,rfl⟩⟩
end Go.Proofs.YtfkhlbhjhdpkoaaDoor
