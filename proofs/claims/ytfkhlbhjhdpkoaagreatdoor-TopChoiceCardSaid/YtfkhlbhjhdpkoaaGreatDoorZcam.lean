/- strings.SplitSeq hands back a function on three boxes. -/
import Derived.Test.YtfkhlbhjhdpkoaaGreatDoorZcaf
import Derived.Test.YtfkhlbhjhdpkoaaGreatDoorZcag
import Derived.Test.YtfkhlbhjhdpkoaaGreatDoorZcal
set_option linter.unusedVariables false
set_option linter.unusedSimpArgs false
set_option maxHeartbeats 4000000
set_option maxRecDepth 100000
namespace Go.Proofs.YtfkhlbhjhdpkoaaGreatDoor
open Go.RowKit
def VO (a b : List UInt8) (z : Int) : GI :=
 ⟨[cS a, cS b, cI z], [], [], .ret (.c (.clo 97 [2, 1, 3])) [[kS a], [kS b], [kI z]] []⟩
def VT : GI → Prop := fun g => ∃ (a b : List UInt8) (z : Int), g = VO a b z
theorem Jex (a b : List UInt8) (z : Int) : VT (VO a b z) := ⟨a, b, z, rfl⟩
theorem Jet : ∀ g, VT g → GenOk Tryz.prog 66 g := by
 rintro _ ⟨a, b, z, rfl⟩
 refine xGn mixed [] [] [] trivial trivial trivial Tryz.func66 _ ?_
 have G := True.intro
 have Y := xZ y_9 <| xZ y_3 <| xZ Tryz.results66 <| VO.eq_1
 dsimp only [VO]
 refine xS ?_
 refine xr ?_
 refine xr ?_
 refine xOr ?_
 refine qDf [] ?_
 exact xO ⟨[1, 2, 3], []⟩
theorem Jez : Callable Tryz.prog 66 ∧ (∀ g, VT g → GenOk Tryz.prog 66 g) ∧ (true = true → ∀ g, VT g → ∃ val bs ts, g.out = .ret val bs ts) :=
 ⟨call_66, Jet, fun _ => by rintro _ ⟨_, _, _, rfl⟩; exact ⟨_, _, _, rfl⟩⟩
def Kv (a b : List UInt8) : GI :=
 ⟨[cS a, cS b], [], [], .ret (.c (.clo 97 [2, 1, 3])) [[kS a], [kS b], [kI 0]] []⟩
def Kt : GI → Prop := fun g => ∃ (a b : List UInt8), g = Kv a b
theorem JcF (a b : List UInt8) : Kt (Kv a b) := ⟨a, b, rfl⟩
theorem Jep : ∀ g, Kt g → GenOk Tryz.prog 46 g := by
 rintro _ ⟨a, b, rfl⟩
 refine xGn mixed [] [(66, true, VT)] [] trivial ⟨Jez, trivial⟩ trivial Tryz.func46 _ ?_
 have G := True.intro
 have Y := xZ y_9 <| xZ y_3 <| xZ Tryz.results46 <| xZ VO.eq_1 <| Kv.eq_1
 dsimp only [Kv]
 refine xS ?_
 refine xr ?_
 have F := Y
 refine xQ ?_
 refine xs 2 ?_
 refine xc ⟨[], []⟩ (tabG 0 (Jex a b 0)) ?_
 refine xs 1 ?_
 refine xl ?_
 refine xS ?_
 refine xOr ?_
 refine qDf [] ?_
 exact xO ⟨[1, 2, 3], []⟩
theorem JcG : Callable Tryz.prog 46 ∧ (∀ g, Kt g → GenOk Tryz.prog 46 g) ∧ (true = true → ∀ g, Kt g → ∃ val bs ts, g.out = .ret val bs ts) :=
 ⟨call_46, Jep, fun _ => by rintro _ ⟨_, _, rfl⟩; exact ⟨_, _, _, rfl⟩⟩
end Go.Proofs.YtfkhlbhjhdpkoaaGreatDoor
