/- Lines that begin with #,each kind. Plain. -/
import Derived.Test.YtfkhlbhjhdpkoaaGreatDoorZqbp
set_option linter.unusedVariables false
set_option linter.unusedSimpArgs false
namespace Go.Proofs.YtfkhlbhjhdpkoaaGreatDoor
open Go.RowKit
theorem JCo{x y:List UInt8}(z:List UInt8)(h:x=y)(hb:eqS y z=false:=by decide):eqS x z=false:=by rw[h]; exact hb
theorem JE9{x y:List UInt8}(z:List UInt8)(h:x=y)(hb:eqS y z=true:=by decide):eqS x z=true:=by rw[h]; exact hb
section
variable (fs:List Source) (F most D:Int) (M:List Macro) (o rd:List Int) (d:Int) (gs:List drive_group) (out:List Token)
theorem JBN(x1:Nat)(L:List Token)(w:List UInt8)(hL:1<L.length)(hb:(L.getD 1 default).Text=w)(hw:[eqS w [105,102],eqS w [105,102,100,101,102],eqS w [105,102,110,100,101,102],eqS w [101,108,105,102],eqS w [101,108,115,101],eqS w [101,110,100,105,102]]=[false,false,false,false,false,false]:=by decide):
  KB x1 L fs F most D M o rd d gs out=some (.ok (x1,false,F,gs)):=by
 simp only[List.cons.injEq,and_true]at hw
 obtain⟨e1,e2,e3,e4,e5,e6⟩:=hw
 unfold KB
 simp only[hb,e1,e2,e3,Bool.false_eq_true,if_false]
 rw[if_pos hL]
 simp only[KK,Bool.false_eq_true,if_false,e4,e5,e6,KG]
end
section
variable (q1:Int→List Source→Int→Int→Int→List Macro→List Int→List Int→Int→List Token→Option Yd)
variable (q2 q3:List Token→List Source→Int→Int→Int→List Macro→List Int→List Int→Int→List Token→Option Yd)
variable (fs:List Source) (F most D:Int) (M:List Macro) (o rd:List Int) (d:Int) (gs:List drive_group) (out:List Token)
theorem Jpj(L:List Token)(hL:1<L.length)(hb:(L.getD 1 default).Text=incT){r:GR Yi Yq}(hq:q3 L fs F most D M o rd d out=some r):
  VM q1 q2 q3 L fs F most D M o rd d out=some r:=by
 have e1:=JCo [100,101,102,105,110,101] hb
 have e2:=JCo [117,110,100,101,102] hb
 have e3:=JE9 [105,110,99,108,117,100,101] hb
 unfold VM
 simp only[e1,e2,e3,Bool.false_eq_true,if_false,if_true,hq]
 rw[if_pos hL]
 cases r <;> rfl
theorem Juq(l:List Int)(hl:l.length≤1099511627776)(x:Int):KJ l x=some (decide (x∈l)):=by
 unfold KJ V8
 rw[Joj l (fun y=>decide (x=y)) (fun j=>(j:Int)) (-1) (fun j hj=>?_)]
 ·simp only[Option.bind_some,leI]
  congr 1
  rw[Bool.eq_iff_iff]
  by_cases h:x∈l
  ·have:(l.any fun y=>decide (x=y))=true:=by simpa using h
   rw[this]; simp[h]
  have:(l.any fun y=>decide (x=y))=false:=by
   rw[Bool.eq_false_iff]; intro q; exact h (by simpa using q)
  rw[this]; simp[h]
 simp only[XG,ltI,eqI,decide_eq_true_eq,Int.toNat_natCast,inrO,Option.map_some]
 by_cases h:j<l.length
 ·rw[if_pos (by omega),if_pos (by omega),if_pos h,wN1 j (by omega)]
 rw[if_neg (by omega),if_neg h]
theorem Jzj(a b c:Token)(nm:List UInt8)(hk:c.Kind=4)(hc:c.Text=34::(nm++[34]))(hn:nm.length≤1000){k:Int}(hf:Xc fs c.File nm true=some k)(h0:0≤k)(ho:o.length≤1000){r:Option Yd}
  (hr:r=if k∈o then some (.ok (F,M,o,rd,d,out)) else if D≤d then some (.er (10,c.File,c.At,F,M,o,rd,d,out)) else
   grB (q1 k fs F most D M o rd (IntKind.i64.wrap (d+1)) out) (fun r6=>some (.ok (r6.1,r6.2.1,r6.2.2.1,r6.2.2.2.1,IntKind.i64.wrap (r6.2.2.2.2.1-1),r6.2.2.2.2.2))) (fun e4=>some (.er e4))) :
  Vi q1 q2 q3 [a,b,c] fs F most D M o rd d out=r:=by
 rw[hr]
 unfold Vi
 simp only[List.length_cons,List.length_nil,List.getD_cons_succ,List.getD_cons_zero,hk]
 rw[if_neg (by decide),if_pos (by omega),if_neg (by decide)]
 have hlen:c.Text.length=nm.length+2:=by rw[hc]; simp
 have hw:IntKind.i64.wrap ((c.Text.length:Int)-1)=((nm.length+1:Nat):Int):=by rw[hlen,wr _ (by omega)]; omega
 have ht:List.take (nm.length+1-1) (List.drop 1 c.Text)=nm:=by rw[hc]; simp
 simp only[K6,Bool.false_eq_true,if_false,List.length_cons,List.length_nil,List.getD_cons_succ,List.getD_cons_zero,hw,Int.toNat_natCast,ht,hk]
 rw[if_pos (by omega),if_pos (by omega),if_pos (by omega),if_pos (by omega),if_pos (by omega)]
 rw[show eqI 4 4=true from rfl,hf]
 simp only[Option.bind_some,ltI,leI,decide_eq_true_eq,Juq o (by omega)]
 rw[if_neg (by omega)]
 by_cases hm:k∈o
 ·rw[if_pos hm,if_pos hm]
 rw[if_neg hm,if_neg hm]
 by_cases hD:D≤d
 ·rw[if_pos hD,if_pos hD,if_pos (by omega)]
  rfl
 rw[if_neg hD,if_neg hD]
end
end Go.Proofs.YtfkhlbhjhdpkoaaGreatDoor
