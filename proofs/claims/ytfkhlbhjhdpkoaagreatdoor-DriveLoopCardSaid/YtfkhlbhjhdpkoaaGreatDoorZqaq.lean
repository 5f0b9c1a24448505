/- strings.SplitSeq hands back a function on three boxes. -/
import Derived.Test.YtfkhlbhjhdpkoaaGreatDoorZqae
import Derived.Test.YtfkhlbhjhdpkoaaGreatDoorZqaj
import Derived.Test.YtfkhlbhjhdpkoaaGreatDoorZqal
set_option linter.unusedVariables false
set_option linter.unusedSimpArgs false
set_option maxHeartbeats 4000000
set_option maxRecDepth 100000
namespace Go.Proofs.YtfkhlbhjhdpkoaaGreatDoor
open Go.RowKit
def ZY(a b:List UInt8)(z:Int):GI :=
 ⟨[cS a,cS b,cI z],[],[],.ret (.c (.clo 97 [2,1,3])) [[kS a],[kS b],[kI z]] []⟩
def ZZ:GI→Prop:=fun g=>∃ (a b:List UInt8) (z:Int),g=ZY a b z
theorem Jlj(a b:List UInt8)(z:Int):ZZ (ZY a b z):=⟨a,b,z,rfl⟩
theorem Jk9:∀ g,ZZ g→Jm Tryz.prog 66 g:=by
 rintro _ ⟨a,b,z,rfl⟩
 refine xGn mixed [] [] [] trivial trivial trivial Tryz.func66 _ ?_
 have G:=True.intro
 have Y:=xZ y_9 <| xZ y_3 <| xZ Tryz.results66 <| ZY.eq_1
 dsimp only[ZY]
 refine xS ?_
 refine xr ?_
 refine xr ?_
 refine xOr ?_
 refine qDf [] ?_
 exact xO ⟨[1,2,3],[]⟩
theorem JlK:Jd Tryz.prog 66∧(∀ g,ZZ g→Jm Tryz.prog 66 g)∧(true=true→∀ g,ZZ g→∃ val bs ts,g.out=.ret val bs ts) :=
 ⟨JDQ,Jk9,fun _=>by rintro _ ⟨_,_,_,rfl⟩; exact⟨_,_,_,rfl⟩⟩
def Xs(a b:List UInt8):GI :=
 ⟨[cS a,cS b],[],[],.ret (.c (.clo 97 [2,1,3])) [[kS a],[kS b],[kI 0]] []⟩
def Xz:GI→Prop:=fun g=>∃ (a b:List UInt8),g=Xs a b
theorem Jhk(a b:List UInt8):Xz (Xs a b):=⟨a,b,rfl⟩
theorem Jk2:∀ g,Xz g→Jm Tryz.prog 46 g:=by
 rintro _ ⟨a,b,rfl⟩
 refine xGn mixed [] [(66,true,ZZ)] [] trivial ⟨JlK,trivial⟩ trivial Tryz.func46 _ ?_
 have G:=True.intro
 have Y:=xZ y_9 <| xZ y_3 <| xZ Tryz.results46 <| xZ ZY.eq_1 <| Xs.eq_1
 dsimp only[Xs]
 refine xS ?_
 refine xr ?_
 have F:=Y
 refine xQ ?_
 refine xs 2 ?_
 refine xc ⟨[],[]⟩ (tabG 0 (Jlj a b 0)) ?_
 refine xs 1 ?_
 refine xl ?_
 refine xS ?_
 refine xOr ?_
 refine qDf [] ?_
 exact xO ⟨[1,2,3],[]⟩
theorem Jhq:Jd Tryz.prog 46∧(∀ g,Xz g→Jm Tryz.prog 46 g)∧(true=true→∀ g,Xz g→∃ val bs ts,g.out=.ret val bs ts) :=
 ⟨JDh,Jk2,fun _=>by rintro _ ⟨_,_,rfl⟩; exact⟨_,_,_,rfl⟩⟩
end Go.Proofs.YtfkhlbhjhdpkoaaGreatDoor
