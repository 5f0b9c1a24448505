/- strings.Index of this program,named: what the library's contract is laid at. -/
import Derived.Test.YtfkhlbhjhdpkoaaGreatDoorZrae
import Derived.Test.YtfkhlbhjhdpkoaaGreatDoorProg
import Derived.Shelf.Strings.Split
set_option linter.unusedVariables false
set_option linter.unusedSimpArgs false
namespace Go.Proofs.YtfkhlbhjhdpkoaaGreatDoor
open Go.Shelf
def Jvb:Go.Shelf.Ren:=⟨fun | 143=>99 | 219=>120 | 217=>134 | 225=>135 | 224=>136 | 267=>137 | 266=>156 | 314=>157 | n=>n,fun | 9=>9 | 3=>3 | 4=>4 | 5=>5 | 46=>148 | 146=>213 | 51=>146 | n=>n,fun | 1=>5 | n=>n⟩
theorem JwE:Go.Proofs.Lays.n143 Tryz.prog Jvb:={
 mixed:=by kernel_rfl
 f143:=Tryz.func99.trans (congrArg some (by kernel_rfl))
 f217:=Tryz.func134.trans (congrArg some (by kernel_rfl))
 f219:=Tryz.func120.trans (congrArg some (by kernel_rfl))
 f224:=Tryz.func136.trans (congrArg some (by kernel_rfl))
 f225:=Tryz.func135.trans (congrArg some (by kernel_rfl))
 f266:=Tryz.func156.trans (congrArg some (by kernel_rfl))
 f267:=Tryz.func137.trans (congrArg some (by kernel_rfl))
 f314:=Tryz.func157.trans (congrArg some (by kernel_rfl))
 t3:=Tryz.underlying3
 a3:=Tryz.isAgg3
 z3:=Tryz.sizeOf3
 v3:=Tryz.zeroValue3
 t4:=Tryz.underlying4
 a4:=Tryz.isAgg4
 z4:=Tryz.sizeOf4
 v4:=Tryz.zeroValue4
 t5:=Tryz.underlying5
 a5:=Tryz.isAgg5
 z5:=Tryz.sizeOf5
 v5:=Tryz.zeroValue5
 t9:=Tryz.underlying9
 a9:=Tryz.isAgg9
 z9:=Tryz.sizeOf9
 v9:=Tryz.zeroValue9
 t46:=Tryz.underlying148
 a46:=Tryz.isAgg148
 z46:=Tryz.sizeOf148
 v46:=Tryz.zeroValue148
 t51:=Tryz.underlying146
 a51:=Tryz.isAgg146
 z51:=Tryz.sizeOf146
 v51:=Tryz.zeroValue146
 t146:=Tryz.underlying213
 a146:=Tryz.isAgg213
 z146:=Tryz.sizeOf213
 v146:=Tryz.zeroValue213
 g1:=by kernel_rfl }
end Go.Proofs.YtfkhlbhjhdpkoaaGreatDoor
