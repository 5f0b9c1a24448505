/- Lines that begin with #,each kind. Plain. -/
import Derived.Test.YtfkhlbhjhdpkoaaGreatDoorZrbq
set_option linter.unusedVariables false
set_option linter.unusedSimpArgs false
namespace Go.Proofs.YtfkhlbhjhdpkoaaGreatDoor
open Go.RowKit
section
variable (fs:List Source) (F most D:Int) (M:List Macro) (o rd:List Int) (d:Int) (gs:List drive_group) (out:List Token)
end
section
variable (q1:Int→List Source→Int→Int→Int→List Macro→List Int→List Int→Int→List Token→Option Ye)
variable (q2 q3:List Token→List Source→Int→Int→Int→List Macro→List Int→List Int→Int→List Token→Option Ye)
variable (fs:List Source) (F most D:Int) (M:List Macro) (o rd:List Int) (d:Int) (gs:List drive_group) (out:List Token)
end
end Go.Proofs.YtfkhlbhjhdpkoaaGreatDoor
