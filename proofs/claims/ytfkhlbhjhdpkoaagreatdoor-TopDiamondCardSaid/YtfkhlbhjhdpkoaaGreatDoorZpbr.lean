/- Lines that begin with #,each kind. Plain. -/
import Derived.Test.YtfkhlbhjhdpkoaaGreatDoorZpbp
set_option linter.unusedVariables false
set_option linter.unusedSimpArgs false
namespace Go.Proofs.YtfkhlbhjhdpkoaaGreatDoor
open Go.RowKit
def JpD:List UInt8:=[105,102,110,100,101,102]
def JiG:List UInt8:=[100,101,102,105,110,101]
def Jvd:List UInt8:=[101,110,100,105,102]
theorem Jgk{x y:List UInt8}(z:List UInt8)(h:x=y)(hb:eqS y z=false:=by decide):eqS x z=false:=by rw[h]; exact hb
theorem Jtq{x y:List UInt8}(z:List UInt8)(h:x=y)(hb:eqS y z=true:=by decide):eqS x z=true:=by rw[h]; exact hb
section
variable (fs:List Source) (F most D:Int) (M:List Macro) (o rd:List Int) (d:Int) (gs:List drive_group) (out:List Token)
theorem Ju4{k:Int}{x:List UInt8}(hf:KB M x=some k)(h1:x≠Ji6)(h2:x≠JjE):Vn x fs F most D M o rd d out=some (leI 0 k):=by
 unfold Vn
 rw[hf]
 simp only[Option.bind_some,Vf]
 cases leI 0 k
 ·rw[if_neg Bool.false_ne_true,if_neg (by simp only[eqS,decide_eq_true_eq]; exact h1)]
  simp only[eqS]
  exact congrArg some (decide_eq_false h2)
 rfl
theorem Jqw(a b c:Token)(hb:b.Text=JpD)(hc:c.Kind=1){kn:Bool}(hk:Vn c.Text fs F most D M o rd d out=some kn):
  JG 0 [a,b,c] fs F most D M o rd d gs out=some (.ok (1,true,F,[⟨!kn,!kn,false,b⟩])):=by
 have e1:=Jgk [105,102] hb
 have e2:=Jgk [105,102,100,101,102] hb
 have e3:=Jtq [105,102,110,100,101,102] hb
 have e4:=Jgk [101,108,105,102] hb
 unfold JG
 simp only[List.length_cons,List.length_nil,List.getD_cons_succ,List.getD_cons_zero,e1,e2,e3,Bool.false_eq_true,if_false]
 rw[if_pos (by omega)]
 simp only[J1,if_true,Jop,Option.bind_some,List.getD_cons_succ,List.getD_cons_zero,List.length_cons,List.length_nil]
 rw[if_neg (by decide),if_pos (by omega)]
 have hh:Xn [a,b,c] fs F most D M o rd d out=some (.ok (!kn,F)):=by
  unfold Xn
  simp only[List.length_cons,List.length_nil,List.getD_cons_succ,List.getD_cons_zero,e1,e4,Bool.false_eq_true,if_false]
  rw[if_pos (by omega)]
  simp only[Xe,Bool.false_eq_true,if_false,List.length_cons,List.length_nil,List.getD_cons_succ,List.getD_cons_zero]
  rw[if_neg (by decide),if_pos (by omega)]
  simp only[V7,hc,List.length_cons,List.length_nil,List.getD_cons_succ,List.getD_cons_zero]
  rw[if_neg (by decide),if_pos (by omega),if_pos (by omega),hk]
  simp only[Option.bind_some,e2]
  cases kn <;> rfl
 rw[hh]
 simp only[grB,Vc]
 rw[if_pos (by simp)]
 rfl
theorem JtS(a b:Token)(g:drive_group)(hb:b.Text=Jvd):
  JG 1 [a,b] fs F most D M o rd d (g::gs) out=some (.ok (0,true,F,g::gs)):=by
 have e1:=Jgk [105,102] hb
 have e2:=Jgk [105,102,100,101,102] hb
 have e3:=Jgk [105,102,110,100,101,102] hb
 have e4:=Jgk [101,108,105,102] hb
 have e5:=Jgk [101,108,115,101] hb
 have e6:=Jtq [101,110,100,105,102] hb
 unfold JG
 simp only[List.length_cons,List.length_nil,List.getD_cons_succ,List.getD_cons_zero,e1,e2,e3,Bool.false_eq_true,if_false]
 rw[if_pos (by omega)]
 simp only[J1,Bool.false_eq_true,if_false,e4,e5,e6,Kk,if_true,List.length_cons,List.length_nil]
 rw[if_neg (by decide),if_pos (by decide),if_neg (by decide),if_pos (by decide)]
 rfl
theorem JiZ(x1:Nat)(L:List Token)(w:List UInt8)(hL:1<L.length)(hb:(L.getD 1 default).Text=w)(hw:[eqS w [105,102],eqS w [105,102,100,101,102],eqS w [105,102,110,100,101,102],eqS w [101,108,105,102],eqS w [101,108,115,101],eqS w [101,110,100,105,102]]=[false,false,false,false,false,false]:=by decide):
  JG x1 L fs F most D M o rd d gs out=some (.ok (x1,false,F,gs)):=by
 simp only[List.cons.injEq,and_true]at hw
 obtain⟨e1,e2,e3,e4,e5,e6⟩:=hw
 unfold JG
 simp only[hb,e1,e2,e3,Bool.false_eq_true,if_false]
 rw[if_pos hL]
 simp only[J1,Bool.false_eq_true,if_false,e4,e5,e6,Kk]
end
section
variable (q1:Int→List Source→Int→Int→Int→List Macro→List Int→List Int→Int→List Token→Option Ye)
variable (q2 q3:List Token→List Source→Int→Int→Int→List Macro→List Int→List Int→Int→List Token→Option Ye)
variable (fs:List Source) (F most D:Int) (M:List Macro) (o rd:List Int) (d:Int) (gs:List drive_group) (out:List Token)
theorem JDK(c:Token)(hc:c.Kind=1)(hb:VW c.Text=some false):Jdk [c]=some (⟨c.Text,false,[],false,[]⟩,⟨0,-1,0⟩):=by
 unfold Jdk
 simp only[List.length_cons,List.length_nil,List.getD_cons_zero,hc]
 rw[if_neg (by decide),if_pos (by omega)]
 simp only[Jcw,List.length_cons,List.length_nil,List.getD_cons_zero,hb,Option.bind_some,Bool.false_eq_true,if_false]
 rw[if_neg (by decide),if_pos (by omega),if_pos (by omega),if_neg (by decide)]
 simp only[JaW,Bool.false_eq_true,if_false,List.length_cons,List.length_nil]
 rw[if_neg (by decide),if_pos (by decide),Jz]
 simp only[Jd4,List.drop_succ_cons,List.drop_zero,List.length_nil]
 rw[if_neg (by decide)]
 have hbody:JfF c.Text false [] false []=some ():=by
  unfold JfF
  rw[Jz]; rfl
 rw[hbody]; rfl
theorem Jyd{x:List UInt8}(h1:x≠Ji6)(h2:x≠JjE)(h3:x≠[100,101,102,105,110,101,100]):VW x=some false:=by
 unfold VW
 simp only[eqS,decide_eq_true_eq,Zo]
 rw[if_neg (show ¬ x=[95,95,76,73,78,69,95,95] from h1),if_neg (show ¬ x=[95,95,70,73,76,69,95,95] from h2),decide_eq_false h3]
theorem JzF(a b c:Token)(hb:b.Text=JiG)(hc:c.Kind=1)(hn:VW c.Text=some false)(hf:KB M c.Text=some (-1))(hM:M.length<30):
  JD q1 q2 q3 [a,b,c] fs F most D M o rd d out=some (.ok (F,M++[⟨c.Text,false,[],false,[]⟩],o,rd,d,out)):=by
 have e1:=Jtq [100,101,102,105,110,101] hb
 unfold JD
 simp only[List.length_cons,List.length_nil,List.getD_cons_succ,List.getD_cons_zero,e1,if_true]
 rw[if_pos (by omega),if_pos (by decide)]
 simp only[List.drop_succ_cons,List.drop_zero,JDK c hc hn,Option.bind_some]
 rw[if_pos (by decide)]
 have hd:Jcp M ⟨c.Text,false,[],false,[]⟩=some (M++[⟨c.Text,false,[],false,[]⟩],0):=by
  unfold Jcp
  simp only[hf,Option.bind_some,leI,decide_eq_true_eq,List.length_cons,List.length_nil]
  rw[if_neg (by omega),if_neg (by omega)]
  simp only[JM]
  rw[if_pos (by omega)]
  simp only[Option.bind_some]
  rw[if_pos (by omega)]
 simp only[Xo,V8]
 rw[if_neg (by decide)]
 simp only[Jpa,grB,hd,Option.bind_some]
 rw[if_neg (by decide)]
theorem Jyh(L:List Token)(hL:1<L.length)(hb:(L.getD 1 default).Text=incT){r:GR Yj Yp}(hq:q3 L fs F most D M o rd d out=some r):
  JD q1 q2 q3 L fs F most D M o rd d out=some r:=by
 have e1:=Jgk [100,101,102,105,110,101] hb
 have e2:=Jgk [117,110,100,101,102] hb
 have e3:=Jtq [105,110,99,108,117,100,101] hb
 unfold JD
 simp only[e1,e2,e3,Bool.false_eq_true,if_false,if_true,hq]
 rw[if_pos hL]
 cases r <;> rfl
theorem Jvo(l:List Int)(hl:l.length≤1099511627776)(x:Int):KL l x=some (decide (x∈l)):=by
 unfold KL VN
 rw[Jjb l (fun y=>decide (x=y)) (fun j=>(j:Int)) (-1) (fun j hj=>?_)]
 ·simp only[Option.bind_some,leI]
  congr 1
  rw[Bool.eq_iff_iff]
  by_cases h:x∈l
  ·have:(l.any fun y=>decide (x=y))=true:=by simpa using h
   rw[this]; simp[h]
  have:(l.any fun y=>decide (x=y))=false:=by
   rw[Bool.eq_false_iff]; intro q; exact h (by simpa using q)
  rw[this]; simp[h]
 simp only[Xr,ltI,eqI,decide_eq_true_eq,Int.toNat_natCast,inrO,Option.map_some]
 by_cases h:j<l.length
 ·rw[if_pos (by omega),if_pos (by omega),if_pos h,wN1 j (by omega)]
 rw[if_neg (by omega),if_neg h]
theorem JDo(a b c:Token)(nm:List UInt8)(hk:c.Kind=4)(hc:c.Text=34::(nm++[34]))(hn:nm.length≤1000){k:Int}(hf:XR fs c.File nm true=some k)(h0:0≤k)(ho:o.length≤1000){r:Option Ye}
  (hr:r=if k∈o then some (.ok (F,M,o,rd,d,out)) else if D≤d then some (.er (10,c.File,c.At,F,M,o,rd,d,out)) else
   grB (q1 k fs F most D M o rd (IntKind.i64.wrap (d+1)) out) (fun r6=>some (.ok (r6.1,r6.2.1,r6.2.2.1,r6.2.2.2.1,IntKind.i64.wrap (r6.2.2.2.2.1-1),r6.2.2.2.2.2))) (fun e4=>some (.er e4))) :
  KG q1 q2 q3 [a,b,c] fs F most D M o rd d out=r:=by
 rw[hr]
 unfold KG
 simp only[List.length_cons,List.length_nil,List.getD_cons_succ,List.getD_cons_zero,hk]
 rw[if_neg (by decide),if_pos (by omega),if_neg (by decide)]
 have hlen:c.Text.length=nm.length+2:=by rw[hc]; simp
 have hw:IntKind.i64.wrap ((c.Text.length:Int)-1)=((nm.length+1:Nat):Int):=by rw[hlen,wr _ (by omega)]; omega
 have ht:List.take (nm.length+1-1) (List.drop 1 c.Text)=nm:=by rw[hc]; simp
 simp only[KY,Bool.false_eq_true,if_false,List.length_cons,List.length_nil,List.getD_cons_succ,List.getD_cons_zero,hw,Int.toNat_natCast,ht,hk]
 rw[if_pos (by omega),if_pos (by omega),if_pos (by omega),if_pos (by omega),if_pos (by omega)]
 rw[show eqI 4 4=true from rfl,hf]
 simp only[Option.bind_some,ltI,leI,decide_eq_true_eq,Jvo o (by omega)]
 rw[if_neg (by omega)]
 by_cases hm:k∈o
 ·rw[if_pos hm,if_pos hm]
 rw[if_neg hm,if_neg hm]
 by_cases hD:D≤d
 ·rw[if_pos hD,if_pos hD,if_pos (by omega)]
  rfl
 rw[if_neg hD,if_neg hD]
end
end Go.Proofs.YtfkhlbhjhdpkoaaGreatDoor
