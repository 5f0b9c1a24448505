/- DriveOnce: a file that says so is read once,one with a guard comes out once. Plain. -/
import Derived.Test.YtfkhlbhjhdpkoaaGreatDoorZrbo
import Derived.Test.YtfkhlbhjhdpkoaaGreatDoorZrbw
set_option linter.unusedVariables false
set_option linter.unusedSimpArgs false
namespace Go.Proofs.YtfkhlbhjhdpkoaaGreatDoor
open Go.RowKit
theorem JBS:JbW [109]=some true:=by decide +kernel
end Go.Proofs.YtfkhlbhjhdpkoaaGreatDoor
