/- strings.SplitSeq hands back a function on three boxes. -/
import Derived.Test.YtfkhlbhjhdpkoaaGreatDoorZraf
import Derived.Test.YtfkhlbhjhdpkoaaGreatDoorZrag
import Derived.Test.YtfkhlbhjhdpkoaaGreatDoorZral
set_option linter.unusedVariables false
set_option linter.unusedSimpArgs false
set_option maxHeartbeats 4000000
set_option maxRecDepth 100000
namespace Go.Proofs.YtfkhlbhjhdpkoaaGreatDoor
open Go.RowKit
def VX (a b : List UInt8) (z : Int) : GI :=
 ⟨[.c (.d (.v (str a))), .c (.d (.v (str b))), .c (.d (.v (.int .i64 z)))], [], [], .ret (.c (.clo 97 [2, 1, 3])) [[.d (.v (str a))], [.d (.v (str b))], [.d (.v (.int .i64 z))]] []⟩
def VY : GI → Prop := fun g => ∃ (a b : List UInt8) (z : Int), g = VX a b z
theorem Jd8 (a b : List UInt8) (z : Int) : VY (VX a b z) := ⟨a, b, z, rfl⟩
theorem JdM : ∀ g, VY g → GenOk Tryz.prog 66 g := by
 rintro _ ⟨a, b, z, rfl⟩
 refine xGn mixed [] [] [] trivial trivial trivial Tryz.func66 _ ?_
 have G := True.intro
 have Y := xZ y_9 <| xZ y_3 <| xZ Tryz.results66 <| VX.eq_1
 dsimp only [VX]
 refine xS ?_
 refine xr ?_
 refine xr ?_
 refine xOr ?_
 refine qDf [] ?_
 exact xO ⟨[1, 2, 3], []⟩
theorem Jd6 : Callable Tryz.prog 66 ∧ (∀ g, VY g → GenOk Tryz.prog 66 g) ∧ (true = true → ∀ g, VY g → ∃ val bs ts, g.out = .ret val bs ts) :=
 ⟨call_66, JdM, fun _ => by rintro _ ⟨_, _, _, rfl⟩; exact ⟨_, _, _, rfl⟩⟩
def KN (a b : List UInt8) : GI :=
 ⟨[.c (.d (.v (str a))), .c (.d (.v (str b)))], [], [], .ret (.c (.clo 97 [2, 1, 3])) [[.d (.v (str a))], [.d (.v (str b))], [.d (.v (.int .i64 0))]] []⟩
def KW : GI → Prop := fun g => ∃ (a b : List UInt8), g = KN a b
theorem Jch (a b : List UInt8) : KW (KN a b) := ⟨a, b, rfl⟩
theorem JdL : ∀ g, KW g → GenOk Tryz.prog 46 g := by
 rintro _ ⟨a, b, rfl⟩
 refine xGn mixed [] [(66, true, VY)] [] trivial ⟨Jd6, trivial⟩ trivial Tryz.func46 _ ?_
 have G := True.intro
 have Y := xZ y_9 <| xZ y_3 <| xZ Tryz.results46 <| xZ VX.eq_1 <| KN.eq_1
 dsimp only [KN]
 refine xS ?_
 refine xr ?_
 have F := Y
 refine xQ ?_
 refine xs 2 ?_
 refine xc ⟨[], []⟩ (tabG 0 (Jd8 a b 0)) ?_
 refine xs 1 ?_
 refine xl ?_
 refine xS ?_
 refine xOr ?_
 refine qDf [] ?_
 exact xO ⟨[1, 2, 3], []⟩
theorem Jcc : Callable Tryz.prog 46 ∧ (∀ g, KW g → GenOk Tryz.prog 46 g) ∧ (true = true → ∀ g, KW g → ∃ val bs ts, g.out = .ret val bs ts) :=
 ⟨call_46, JdL, fun _ => by rintro _ ⟨_, _, rfl⟩; exact ⟨_, _, _, rfl⟩⟩
end Go.Proofs.YtfkhlbhjhdpkoaaGreatDoor
