/- strings.SplitSeq hands back a function on three boxes. -/
import Derived.Test.YtfkhlbhjhdpkoaaGreatDoorZcaf
import Derived.Test.YtfkhlbhjhdpkoaaGreatDoorZcag
import Derived.Test.YtfkhlbhjhdpkoaaGreatDoorZcal
set_option linter.unusedVariables false
set_option linter.unusedSimpArgs false
set_option maxHeartbeats 4000000
set_option maxRecDepth 100000
namespace Go.Proofs.YtfkhlbhjhdpkoaaGreatDoor
open Go.RowKit
def VJ (a b : List UInt8) (z : Int) : GI :=
 ⟨[cS a, cS b, cI z], [], [], .ret (.c (.clo 97 [2, 1, 3])) [[kS a], [kS b], [kI z]] []⟩
def VH : GI → Prop := fun g => ∃ (a b : List UInt8) (z : Int), g = VJ a b z
theorem JeK (a b : List UInt8) (z : Int) : VH (VJ a b z) := ⟨a, b, z, rfl⟩
theorem Jeq : ∀ g, VH g → GenOk Tryz.prog 66 g := by
 rintro _ ⟨a, b, z, rfl⟩
 refine xGn mixed [] [] [] trivial trivial trivial Tryz.func66 _ ?_
 have G := True.intro
 have Y := xZ y_9 <| xZ y_3 <| xZ Tryz.results66 <| VJ.eq_1
 dsimp only [VJ]
 refine xS ?_
 refine xr ?_
 refine xr ?_
 refine xOr ?_
 refine qDf [] ?_
 exact xO ⟨[1, 2, 3], []⟩
theorem JeP : Callable Tryz.prog 66 ∧ (∀ g, VH g → GenOk Tryz.prog 66 g) ∧ (true = true → ∀ g, VH g → ∃ val bs ts, g.out = .ret val bs ts) :=
 ⟨call_66, Jeq, fun _ => by rintro _ ⟨_, _, _, rfl⟩; exact ⟨_, _, _, rfl⟩⟩
def Ku (a b : List UInt8) : GI :=
 ⟨[cS a, cS b], [], [], .ret (.c (.clo 97 [2, 1, 3])) [[kS a], [kS b], [kI 0]] []⟩
def KA : GI → Prop := fun g => ∃ (a b : List UInt8), g = Ku a b
theorem JcG (a b : List UInt8) : KA (Ku a b) := ⟨a, b, rfl⟩
theorem Jes : ∀ g, KA g → GenOk Tryz.prog 46 g := by
 rintro _ ⟨a, b, rfl⟩
 refine xGn mixed [] [(66, true, VH)] [] trivial ⟨JeP, trivial⟩ trivial Tryz.func46 _ ?_
 have G := True.intro
 have Y := xZ y_9 <| xZ y_3 <| xZ Tryz.results46 <| xZ VJ.eq_1 <| Ku.eq_1
 dsimp only [Ku]
 refine xS ?_
 refine xr ?_
 have F := Y
 refine xQ ?_
 refine xs 2 ?_
 refine xc ⟨[], []⟩ (tabG 0 (JeK a b 0)) ?_
 refine xs 1 ?_
 refine xl ?_
 refine xS ?_
 refine xOr ?_
 refine qDf [] ?_
 exact xO ⟨[1, 2, 3], []⟩
theorem JcE : Callable Tryz.prog 46 ∧ (∀ g, KA g → GenOk Tryz.prog 46 g) ∧ (true = true → ∀ g, KA g → ∃ val bs ts, g.out = .ret val bs ts) :=
 ⟨call_46, Jes, fun _ => by rintro _ ⟨_, _, rfl⟩; exact ⟨_, _, _, rfl⟩⟩
end Go.Proofs.YtfkhlbhjhdpkoaaGreatDoor
