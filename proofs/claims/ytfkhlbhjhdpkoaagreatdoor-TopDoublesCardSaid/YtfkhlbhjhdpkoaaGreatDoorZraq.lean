/- strings.SplitSeq hands back a function on three boxes. -/
import Derived.Test.YtfkhlbhjhdpkoaaGreatDoorZrae
import Derived.Test.YtfkhlbhjhdpkoaaGreatDoorZraj
import Derived.Test.YtfkhlbhjhdpkoaaGreatDoorZral
set_option linter.unusedVariables false
set_option linter.unusedSimpArgs false
set_option maxHeartbeats 4000000
set_option maxRecDepth 100000
namespace Go.Proofs.YtfkhlbhjhdpkoaaGreatDoor
open Go.RowKit
def Zt(a b:List UInt8)(z:Int):GI :=
 ⟨[cS a,cS b,cI z],[],[],.ret (.c (.clo 97 [2,1,3])) [[kS a],[kS b],[kI z]] []⟩
def Zw:GI→Prop:=fun g=>∃ (a b:List UInt8) (z:Int),g=Zt a b z
theorem Jk7(a b:List UInt8)(z:Int):Zw (Zt a b z):=⟨a,b,z,rfl⟩
theorem JjO:∀ g,Zw g→Jm Tryz.prog 66 g:=by
 rintro _ ⟨a,b,z,rfl⟩
 refine xGn mixed [] [] [] trivial trivial trivial Tryz.func66 _ ?_
 have G:=True.intro
 have Y:=xZ y_9 <| xZ y_3 <| xZ Tryz.results66 <| Zt.eq_1
 dsimp only[Zt]
 refine xS ?_
 refine xr ?_
 refine xr ?_
 refine xOr ?_
 refine qDf [] ?_
 exact xO ⟨[1,2,3],[]⟩
theorem Jks:Jc Tryz.prog 66∧(∀ g,Zw g→Jm Tryz.prog 66 g)∧(true=true→∀ g,Zw g→∃ val bs ts,g.out=.ret val bs ts) :=
 ⟨JBs,JjO,fun _=>by rintro _ ⟨_,_,_,rfl⟩; exact⟨_,_,_,rfl⟩⟩
def V7(a b:List UInt8):GI :=
 ⟨[cS a,cS b],[],[],.ret (.c (.clo 97 [2,1,3])) [[kS a],[kS b],[kI 0]] []⟩
def Xe:GI→Prop:=fun g=>∃ (a b:List UInt8),g=V7 a b
theorem Jgp(a b:List UInt8):Xe (V7 a b):=⟨a,b,rfl⟩
theorem JjV:∀ g,Xe g→Jm Tryz.prog 46 g:=by
 rintro _ ⟨a,b,rfl⟩
 refine xGn mixed [] [(66,true,Zw)] [] trivial ⟨Jks,trivial⟩ trivial Tryz.func46 _ ?_
 have G:=True.intro
 have Y:=xZ y_9 <| xZ y_3 <| xZ Tryz.results46 <| xZ Zt.eq_1 <| V7.eq_1
 dsimp only[V7]
 refine xS ?_
 refine xr ?_
 have F:=Y
 refine xQ ?_
 refine xs 2 ?_
 refine xc ⟨[],[]⟩ (tabG 0 (Jk7 a b 0)) ?_
 refine xs 1 ?_
 refine xl ?_
 refine xS ?_
 refine xOr ?_
 refine qDf [] ?_
 exact xO ⟨[1,2,3],[]⟩
theorem Jgt:Jc Tryz.prog 46∧(∀ g,Xe g→Jm Tryz.prog 46 g)∧(true=true→∀ g,Xe g→∃ val bs ts,g.out=.ret val bs ts) :=
 ⟨JB0,JjV,fun _=>by rintro _ ⟨_,_,rfl⟩; exact⟨_,_,_,rfl⟩⟩
end Go.Proofs.YtfkhlbhjhdpkoaaGreatDoor
