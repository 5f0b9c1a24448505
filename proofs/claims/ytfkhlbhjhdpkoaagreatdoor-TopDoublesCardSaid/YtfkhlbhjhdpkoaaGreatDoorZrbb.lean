/- Texts one behind the other: how they are joined. Plain. -/
import Derived.Test.YtfkhlbhjhdpkoaaGreatDoorZrax
set_option linter.unusedVariables false
set_option linter.unusedSimpArgs false
namespace Go.Proofs.YtfkhlbhjhdpkoaaGreatDoor
open Go.RowKit
def shut(l:List UInt8):Prop:=∀ a,l≠a++[92]∧l≠a++[92,13]
theorem shut.tail{c:UInt8}{l:List UInt8}(h:shut (c::l)):shut l:=fun a =>
 ⟨fun e=>(h (c::a)).1 (by rw[e]; rfl),fun e=>(h (c::a)).2 (by rw[e]; rfl)⟩
end Go.Proofs.YtfkhlbhjhdpkoaaGreatDoor
