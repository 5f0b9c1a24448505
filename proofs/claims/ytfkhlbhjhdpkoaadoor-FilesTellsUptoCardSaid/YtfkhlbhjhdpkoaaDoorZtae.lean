/- strings.Index of this program,named: what the library's Jii is laid at. -/
import Derived.Test.YtfkhlbhjhdpkoaaDoorZtad
import Derived.Test.YtfkhlbhjhdpkoaaDoorProg
import Derived.Shelf.Strings.Split
set_option linter.unusedVariables false
set_option linter.unusedSimpArgs false
namespace Go.Proofs.YtfkhlbhjhdpkoaaDoor
open Go.Shelf
def Jiz:Go.Shelf.Ren:=⟨fun | 143=>43 | 219=>52 | 217=>58 | 225=>59 | 224=>60 | 267=>61 | 266=>63 | 314=>64 | n=>n,fun | 9=>9 | 3=>3 | 4=>4 | 5=>5 | 46=>88 | 146=>95 | 51=>94 | n=>n,fun | 1=>2 | n=>n⟩
theorem Jjw:Go.Proofs.Lays.n143 Tryd.prog Jiz:={
 mixed:=by kernel_rfl
 f143:=Tryd.func43.trans (congrArg some (by kernel_rfl))
 f217:=Tryd.func58.trans (congrArg some (by kernel_rfl))
 f219:=Tryd.func52.trans (congrArg some (by kernel_rfl))
 f224:=Tryd.func60.trans (congrArg some (by kernel_rfl))
 f225:=Tryd.func59.trans (congrArg some (by kernel_rfl))
 f266:=Tryd.func63.trans (congrArg some (by kernel_rfl))
 f267:=Tryd.func61.trans (congrArg some (by kernel_rfl))
 f314:=Tryd.func64.trans (congrArg some (by kernel_rfl))
 t3:=Tryd.underlying3
 a3:=Tryd.isAgg3
 z3:=Tryd.sizeOf3
 v3:=Tryd.zeroValue3
 t4:=Tryd.underlying4
 a4:=Tryd.isAgg4
 z4:=Tryd.sizeOf4
 v4:=Tryd.zeroValue4
 t5:=Tryd.underlying5
 a5:=Tryd.isAgg5
 z5:=Tryd.sizeOf5
 v5:=Tryd.zeroValue5
 t9:=Tryd.underlying9
 a9:=Tryd.isAgg9
 z9:=Tryd.sizeOf9
 v9:=Tryd.zeroValue9
 t46:=Tryd.underlying88
 a46:=Tryd.isAgg88
 z46:=Tryd.sizeOf88
 v46:=Tryd.zeroValue88
 t51:=Tryd.underlying94
 a51:=Tryd.isAgg94
 z51:=Tryd.sizeOf94
 v51:=Tryd.zeroValue94
 t146:=Tryd.underlying95
 a146:=Tryd.isAgg95
 z146:=Tryd.sizeOf95
 v146:=Tryd.zeroValue95
 g1:=by kernel_rfl }
end Go.Proofs.YtfkhlbhjhdpkoaaDoor
