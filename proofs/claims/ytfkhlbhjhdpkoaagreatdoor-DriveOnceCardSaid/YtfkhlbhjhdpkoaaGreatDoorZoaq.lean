/- strings.SplitSeq hands back a function on three boxes. -/
import Derived.Test.YtfkhlbhjhdpkoaaGreatDoorZoae
import Derived.Test.YtfkhlbhjhdpkoaaGreatDoorZoaj
import Derived.Test.YtfkhlbhjhdpkoaaGreatDoorZoal
set_option linter.unusedVariables false
set_option linter.unusedSimpArgs false
set_option maxHeartbeats 4000000
set_option maxRecDepth 100000
namespace Go.Proofs.YtfkhlbhjhdpkoaaGreatDoor
open Go.RowKit
def Jan(a b:List UInt8)(z:Int):GI :=
 ⟨[cS a,cS b,cI z],[],[],.ret (.c (.clo 97 [2,1,3])) [[kS a],[kS b],[kI z]] []⟩
def Jab:GI→Prop:=fun g=>∃ (a b:List UInt8) (z:Int),g=Jan a b z
theorem Jmn(a b:List UInt8)(z:Int):Jab (Jan a b z):=⟨a,b,z,rfl⟩
theorem Jlx:∀ g,Jab g→Jn Tryz.prog 66 g:=by
 rintro _ ⟨a,b,z,rfl⟩
 refine xGn mixed [] [] [] trivial trivial trivial Tryz.func66 _ ?_
 have G:=True.intro
 have Y:=xZ y_9 <| xZ y_3 <| xZ Tryz.results66 <| Jan.eq_1
 dsimp only[Jan]
 refine xS ?_
 refine xr ?_
 refine xr ?_
 refine xOr ?_
 refine qDf [] ?_
 exact xO ⟨[1,2,3],[]⟩
theorem Jm5:Jd Tryz.prog 66∧(∀ g,Jab g→Jn Tryz.prog 66 g)∧(true=true→∀ g,Jab g→∃ val bs ts,g.out=.ret val bs ts) :=
 ⟨JD6,Jlx,fun _=>by rintro _ ⟨_,_,_,rfl⟩; exact⟨_,_,_,rfl⟩⟩
def XD(a b:List UInt8):GI :=
 ⟨[cS a,cS b],[],[],.ret (.c (.clo 97 [2,1,3])) [[kS a],[kS b],[kI 0]] []⟩
def Xx:GI→Prop:=fun g=>∃ (a b:List UInt8),g=XD a b
theorem JhC(a b:List UInt8):Xx (XD a b):=⟨a,b,rfl⟩
theorem Jlm:∀ g,Xx g→Jn Tryz.prog 46 g:=by
 rintro _ ⟨a,b,rfl⟩
 refine xGn mixed [] [(66,true,Jab)] [] trivial ⟨Jm5,trivial⟩ trivial Tryz.func46 _ ?_
 have G:=True.intro
 have Y:=xZ y_9 <| xZ y_3 <| xZ Tryz.results46 <| xZ Jan.eq_1 <| XD.eq_1
 dsimp only[XD]
 refine xS ?_
 refine xr ?_
 have F:=Y
 refine xQ ?_
 refine xs 2 ?_
 refine xc ⟨[],[]⟩ (tabG 0 (Jmn a b 0)) ?_
 refine xs 1 ?_
 refine xl ?_
 refine xS ?_
 refine xOr ?_
 refine qDf [] ?_
 exact xO ⟨[1,2,3],[]⟩
theorem Jhy:Jd Tryz.prog 46∧(∀ g,Xx g→Jn Tryz.prog 46 g)∧(true=true→∀ g,Xx g→∃ val bs ts,g.out=.ret val bs ts) :=
 ⟨JDs,Jlm,fun _=>by rintro _ ⟨_,_,rfl⟩; exact⟨_,_,_,rfl⟩⟩
end Go.Proofs.YtfkhlbhjhdpkoaaGreatDoor
