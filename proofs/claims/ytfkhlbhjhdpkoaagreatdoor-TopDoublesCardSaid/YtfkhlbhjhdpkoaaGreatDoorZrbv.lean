/- A file with a guard,or that says once: what comes of it. Plain. -/
import Derived.Test.YtfkhlbhjhdpkoaaGreatDoorZrbn
import Derived.Test.YtfkhlbhjhdpkoaaGreatDoorZrbt
set_option linter.unusedVariables false
set_option linter.unusedSimpArgs false
namespace Go.Proofs.YtfkhlbhjhdpkoaaGreatDoor
open Go.RowKit
abbrev Q1:=Int→List Source→Int→Int→Int→List Macro→List Int→List Int→Int→List Token→Option Ye
abbrev Q2:=List Token→List Source→Int→Int→Int→List Macro→List Int→List Int→Int→List Token→Option Ye
theorem JBc(q1:Q1)(q2 q3:Q2)(fs:List Source)(F most D:Int)(M:List Macro)(o rd:List Int)(d:Int)(out:List Token)(k:Nat)(hk:k<fs.length){ts:List Token}(ht:Jcb (k:Int) (fs.getD k default).Text=(ts,⟨0,-1,0⟩))(hl:(fs.getD k default).Text.length≤3000)(hrd:rd.length≤1000):
  K9 q1 q2 q3 (k:Int) fs F most D M o rd d out=Jt (JD q2 fs most D (Jfq ts)) (0,((Jfq ts).length:Int),0,F,M,o,rd++[(k:Int)],d,[],[],out):=by
 unfold K9
 have hs:=(Ju3 (k:Int) (fs.getD k default).Text).1
 rw[ht]at hs
 rw[if_pos (by simp only[List.length_cons,List.length_nil]; omega),if_pos (by omega),Int.toNat_natCast,JmQ _ _ (by omega),ht]
 simp only[Option.bind_some,Jv1,grB]
 rw[Jya ts (by simp only at hs; omega)]
 rfl
section
variable (q1:Q1) (q2 q3:Q2) (p1:Q1) (p2 p3:Q2) (fs:List Source) (F most D:Int) (M:List Macro) (o rd:List Int) (d:Int) (out:List Token)
end
end Go.Proofs.YtfkhlbhjhdpkoaaGreatDoor
