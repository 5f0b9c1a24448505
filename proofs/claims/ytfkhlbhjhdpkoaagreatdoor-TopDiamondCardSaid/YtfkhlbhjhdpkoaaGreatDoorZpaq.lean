/- strings.SplitSeq hands back a function on three boxes. -/
import Derived.Test.YtfkhlbhjhdpkoaaGreatDoorZpae
import Derived.Test.YtfkhlbhjhdpkoaaGreatDoorZpaj
import Derived.Test.YtfkhlbhjhdpkoaaGreatDoorZpal
set_option linter.unusedVariables false
set_option linter.unusedSimpArgs false
set_option maxHeartbeats 4000000
set_option maxRecDepth 100000
namespace Go.Proofs.YtfkhlbhjhdpkoaaGreatDoor
open Go.RowKit
def ZL(a b:List UInt8)(z:Int):GI :=
 ⟨[cS a,cS b,cI z],[],[],.ret (.c (.clo 97 [2,1,3])) [[kS a],[kS b],[kI z]] []⟩
def ZI:GI→Prop:=fun g=>∃ (a b:List UInt8) (z:Int),g=ZL a b z
theorem Jkw(a b:List UInt8)(z:Int):ZI (ZL a b z):=⟨a,b,z,rfl⟩
theorem Jki:∀ g,ZI g→Jn Tryz.prog 66 g:=by
 rintro _ ⟨a,b,z,rfl⟩
 refine xGn mixed [] [] [] trivial trivial trivial Tryz.func66 _ ?_
 have G:=True.intro
 have Y:=xZ y_9 <| xZ y_3 <| xZ Tryz.results66 <| ZL.eq_1
 dsimp only[ZL]
 refine xS ?_
 refine xr ?_
 refine xr ?_
 refine xOr ?_
 refine qDf [] ?_
 exact xO ⟨[1,2,3],[]⟩
theorem JlG:Jc Tryz.prog 66∧(∀ g,ZI g→Jn Tryz.prog 66 g)∧(true=true→∀ g,ZI g→∃ val bs ts,g.out=.ret val bs ts) :=
 ⟨JDh,Jki,fun _=>by rintro _ ⟨_,_,_,rfl⟩; exact⟨_,_,_,rfl⟩⟩
def Xi(a b:List UInt8):GI :=
 ⟨[cS a,cS b],[],[],.ret (.c (.clo 97 [2,1,3])) [[kS a],[kS b],[kI 0]] []⟩
def Xg:GI→Prop:=fun g=>∃ (a b:List UInt8),g=Xi a b
theorem Jgv(a b:List UInt8):Xg (Xi a b):=⟨a,b,rfl⟩
theorem Jkm:∀ g,Xg g→Jn Tryz.prog 46 g:=by
 rintro _ ⟨a,b,rfl⟩
 refine xGn mixed [] [(66,true,ZI)] [] trivial ⟨JlG,trivial⟩ trivial Tryz.func46 _ ?_
 have G:=True.intro
 have Y:=xZ y_9 <| xZ y_3 <| xZ Tryz.results46 <| xZ ZL.eq_1 <| Xi.eq_1
 dsimp only[Xi]
 refine xS ?_
 refine xr ?_
 have F:=Y
 refine xQ ?_
 refine xs 2 ?_
 refine xc ⟨[],[]⟩ (tabG 0 (Jkw a b 0)) ?_
 refine xs 1 ?_
 refine xl ?_
 refine xS ?_
 refine xOr ?_
 refine qDf [] ?_
 exact xO ⟨[1,2,3],[]⟩
theorem JgC:Jc Tryz.prog 46∧(∀ g,Xg g→Jn Tryz.prog 46 g)∧(true=true→∀ g,Xg g→∃ val bs ts,g.out=.ret val bs ts) :=
 ⟨JCA,Jkm,fun _=>by rintro _ ⟨_,_,rfl⟩; exact⟨_,_,_,rfl⟩⟩
end Go.Proofs.YtfkhlbhjhdpkoaaGreatDoor
