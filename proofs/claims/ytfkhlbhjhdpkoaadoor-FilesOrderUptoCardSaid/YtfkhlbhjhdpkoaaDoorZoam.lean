/- Strings as values. -/
import Derived.Test.YtfkhlbhjhdpkoaaDoorZoaf
import Derived.Test.YtfkhlbhjhdpkoaaDoorZoak
import Derived.Shelf.Strings.Split
set_option linter.unusedVariables false
set_option linter.unusedSimpArgs false
namespace Go.Proofs.YtfkhlbhjhdpkoaaDoor
open Go.Shelf Go.RowKit
abbrev Jas:List UInt8→Value:=fun l=>Value.string ⟨l.toArray⟩
theorem JgZ{w:World}{S:Nat→Nat→Prop}:∀ {l:List (List UInt8)} {us:List Value},Rn w S ((l.map dS).flatMap D.cells) us→us=l.map Jas
 | [],us,h=>by cases h; rfl
 | x::l,us,h=>by
  have h:Rn w S (dS x::(l.map dS).flatMap D.cells) us:=h
  cases h with
  | acons _ v _ vs h1 h2 =>
   obtain rfl:=R1.vInv h1
   rw[JgZ h2]
   rfl
theorem Jhe{w:World}{S:Nat→Nat→Prop}:∀ (l:List (List UInt8)),Rn w S ((l.map dS).flatMap D.cells) (l.map Jas)
 | []=>.anil
 | x::l=>.acons _ _ _ _ (.v _) (Jhe l)
end Go.Proofs.YtfkhlbhjhdpkoaaDoor
