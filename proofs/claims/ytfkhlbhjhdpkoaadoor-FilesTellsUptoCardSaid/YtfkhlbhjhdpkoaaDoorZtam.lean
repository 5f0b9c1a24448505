/- Strings as values. -/
import Derived.Test.YtfkhlbhjhdpkoaaDoorZtaf
import Derived.Test.YtfkhlbhjhdpkoaaDoorZtak
import Derived.Shelf.Strings.Split
set_option linter.unusedVariables false
set_option linter.unusedSimpArgs false
namespace Go.Proofs.YtfkhlbhjhdpkoaaDoor
open Go.Shelf Go.RowKit
abbrev JbT:List UInt8→Value:=fun l=>Value.string ⟨l.toArray⟩
theorem Jjj{w:World}{S:Nat→Nat→Prop}:∀ {l:List (List UInt8)} {us:List Value},Rn w S ((l.map dS).flatMap D.cells) us→us=l.map JbT
 | [],us,h=>by cases h; rfl
 | x::l,us,h=>by
  have h:Rn w S (dS x::(l.map dS).flatMap D.cells) us:=h
  cases h with
  | acons _ v _ vs h1 h2 =>
   obtain rfl:=R1.vInv h1
   rw[Jjj h2]
   rfl
theorem Jjd{w:World}{S:Nat→Nat→Prop}:∀ (l:List (List UInt8)),Rn w S ((l.map dS).flatMap D.cells) (l.map JbT)
 | []=>.anil
 | x::l=>.acons _ _ _ _ (.v _) (Jjd l)
end Go.Proofs.YtfkhlbhjhdpkoaaDoor
