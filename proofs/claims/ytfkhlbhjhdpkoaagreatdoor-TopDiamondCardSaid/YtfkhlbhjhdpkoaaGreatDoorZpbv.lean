/- DriveOnce: a file that says so is read once,one with a guard comes out once. Plain. -/
import Derived.Test.YtfkhlbhjhdpkoaaGreatDoorZpbo
import Derived.Test.YtfkhlbhjhdpkoaaGreatDoorZpbu
set_option linter.unusedVariables false
set_option linter.unusedSimpArgs false
namespace Go.Proofs.YtfkhlbhjhdpkoaaGreatDoor
open Go.RowKit
def sufG:List UInt8:=[35,101,110,100,105,102,10]
theorem JDn:lxK (lxF (sufG.length+2) (10::sufG) 0 0 true)=(endK,true):=by decide +kernel
end Go.Proofs.YtfkhlbhjhdpkoaaGreatDoor
