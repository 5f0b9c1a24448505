/- Texts one behind the other: their tokens. Plain. -/
import Derived.Test.YtfkhlbhjhdpkoaaGreatDoorZrbb
set_option linter.unusedVariables false
set_option linter.unusedSimpArgs false
namespace Go.Proofs.YtfkhlbhjhdpkoaaGreatDoor
open Go.RowKit
def JAV(z:List UInt8):Prop:=z=[]∨z=[13]
def JCO(y:List UInt8):Prop:=∀ c,y.head? = some c→c=10∨c=13
theorem JAV.blank{z:List UInt8}(h:JAV z):JCO z:=by
 rcases h with rfl | rfl
 ·intro c hc; cases hc
 intro c hc; cases hc; exact .inr rfl
end Go.Proofs.YtfkhlbhjhdpkoaaGreatDoor
