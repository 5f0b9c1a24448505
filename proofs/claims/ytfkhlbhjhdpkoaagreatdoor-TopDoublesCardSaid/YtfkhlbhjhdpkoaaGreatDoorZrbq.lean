/- A file's lines,one by one. Plain. -/
import Derived.Test.YtfkhlbhjhdpkoaaGreatDoorZrbl
import Derived.Test.YtfkhlbhjhdpkoaaGreatDoorZrbm
set_option linter.unusedVariables false
set_option linter.unusedSimpArgs false
namespace Go.Proofs.YtfkhlbhjhdpkoaaGreatDoor
open Go.RowKit
theorem Jv1:JaF ⟨0,-1,0⟩=some (.ok ()):=rfl
theorem JCq(gs:List drive_group):Xf 0 gs=some true:=by
 unfold Xf JV J2
 rw[Kv]; rfl
section
variable (q2:List Token→List Source→Int→Int→Int→List Macro→List Int→List Int→Int→List Token→Option Ye)
variable (fs:List Source) (most D:Int) (lines:List (List Token)) (x1 i:Nat) (F:Int) (M:List Macro) (o rd:List Int) (d:Int) (gs:List drive_group) (wait out:List Token)
theorem JwT(hi:i<lines.length)(hn:lines.length≤1099511627776)(hne:0<(lines.getD i default).length)(ht:((lines.getD i default).getD 0 default).Text≠[35]){b:Bool}(hr:Xf x1 gs=some b)(hw:wait.length+(lines.getD i default).length≤1099511627):
  JD q2 fs most D lines (x1,(lines.length:Int),(i:Int),F,M,o,rd,d,gs,wait,out)=some (.inl (x1,(lines.length:Int),((i+1:Nat):Int),F,M,o,rd,d,gs,if b=true then wait++lines.getD i default else wait,out)):=by
 simp only[JD,ltI,decide_eq_true_eq,Int.toNat_natCast,eqS]
 rw[if_pos (by omega),if_pos (by omega),if_pos hne,if_pos (JCH ht)]
 simp only[Xu,if_true,hr,Option.bind_some]
 cases b
 ·simp only[Bool.false_eq_true,if_false,VB,Ky,wN1 i (by omega)]
 simp only[if_true]
 rw[if_pos (by omega)]
 simp only[VB,Ky,wN1 i (by omega)]
theorem Jz5{F1:Int}{out1:List Token}(hf:Kj wait fs F most D M o rd d out=some (.ok (F1,out1))):
  JD q2 fs most D lines (0,(lines.length:Int),(lines.length:Int),F,M,o,rd,d,gs,wait,out)=some (.inr (.ok (F1,M,o,rd,d,out1))):=by
 simp only[JD,ltI,decide_eq_true_eq]
 rw[if_neg (by omega)]
 simp only[hf,grB,inrO]
 rfl
end
end Go.Proofs.YtfkhlbhjhdpkoaaGreatDoor
