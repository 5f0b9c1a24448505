/- The same functions,with a lexer that is quick to reckon. Written by fastl.py. -/
import Derived.Test.YtfkhlbhjhdpkoaaGreatDoorZrax
import Derived.Test.YtfkhlbhjhdpkoaaGreatDoorZrbo
set_option linter.unusedVariables false
set_option linter.unusedSimpArgs false
namespace Go.Proofs.YtfkhlbhjhdpkoaaGreatDoor
open Go.RowKit
noncomputable def Jow(f:Int)(t:List UInt8):Option ((List Token)×Fault):=if t.length≤3000 then some (Jcb f t) else KG f t
theorem Jw7:KG=Jow:=by
 funext f t
 unfold Jow
 split
 ·exact JmQ f t (by omega)
 rfl
noncomputable def Je3(L:Yr)(q1:Int→(List Source)→Int→Int→Int→(List Macro)→(List Int)→(List Int)→Int→(List Token)→Option Yd)(q2 q3:(List Token)→(List Source)→Int→Int→Int→(List Macro)→(List Int)→(List Int)→Int→(List Token)→Option Yd)(a0:Int)(a1:List Source)(a2 a3 a4:Int)(a5:List Macro)(a6 a7:List Int)(a8:Int)(a9:List Token):Option Yd :=
 if(a7.length + [a0].length) * 8≤140737488355328 then if(0:Int)≤a0∧a0.toNat<a1.length then(L a0 ((a1.getD a0.toNat default).Text)).bind fun r1=>grB (JaF r1.2) (fun r2=>(Jcx r1.1).bind fun r3=>Jt (JD q2 a1 a3 a4 r3) (0,(r3.length:Int),0,a2,a5,a6,a7++[a0],a8,([]:List drive_group),([]:List Token),a9)) (fun e1=>some (.er (r1.2.Err,r1.2.File,r1.2.At,a2,a5,a6,a7++[a0],a8,a9))) else none else none
theorem JhV:Je3 KG=K9:=by
 rfl
noncomputable def JK(L:Yr):Nat→Yc×Yb×Yb
 | 0=>(fun _ _ _ _ _ _ _ _ _ _=>none,fun _ _ _ _ _ _ _ _ _ _=>none,fun _ _ _ _ _ _ _ _ _ _=>none)
 | n+1=>((Je3 L) (((JK L) n).1) (((JK L) n).2.1) (((JK L) n).2.2),VC (((JK L) n).1) (((JK L) n).2.1) (((JK L) n).2.2),Zq (((JK L) n).1) (((JK L) n).2.1) (((JK L) n).2.2))
theorem Jdu:∀ n,JK KG n=Jn n
 | 0=>rfl
 | n+1=>by
  rw[JK,Jn,Jdu n]
  simp only[JhV]
noncomputable def Jdc(L:Yr):Int→(List Source)→Int→Int→Int→(List Macro)→(List Int)→(List Int)→Int→(List Token)→Option Yd:=((JK L) bigF).1
theorem Ji8:Jdc KG=Jal:=by
 unfold Jdc Jal
 simp only[Jdu]
noncomputable def Xk(L:Yr)(a0:List Source)(a1:Int)(a2:List Macro)(a3:Limits):Bool→Option Yn
 | x2=>if x2=true then some (([]:List Token),([]:List Int),([]:List Macro),3,(-1),0) else(JW a2).bind fun r2=>grB ((Jdc L) a1 a0 a3.Fuel a3.Out a3.Deep a2 ([]:List Int) ([]:List Int) 0 []) (fun r3=>(Jeo 0 (-1) 0).bind fun r4=>(Jeq 0 (-1) 0 r3.2.2.2.2.2 r3.2.2.2.1 r3.2.1).bind fun r5=>some (r5.1,r5.2.1,r5.2.2,0,(-1),0)) (fun e1=>(JaT 0 0 0 e1.1 e1.2.1 e1.2.2.1).bind fun r6=>(JaR e1.1 e1.2.1 e1.2.2.1 ([]:List Token) ([]:List Int) ([]:List Macro)).bind fun r7=>some (r7.1,r7.2.1,r7.2.2,e1.1,e1.2.1,e1.2.2.1))
theorem JnU:Xk KG=Vt:=by
 unfold Xk Vt
 simp only[Ji8]
noncomputable def Jd2(L:Yr)(a0:List Source)(a1:Int)(a2:List Macro)(a3:Limits):Bool→Option Yn
 | x1=>if x1=true then some (([]:List Token),([]:List Int),([]:List Macro),6,(-1),0) else if(ltI a3.Fuel 0)=true then(Xk L) a0 a1 a2 a3 true else if(ltI 4000 a3.Fuel)=true then(Xk L) a0 a1 a2 a3 true else if(ltI a3.Out 0)=true then(Xk L) a0 a1 a2 a3 true else if(ltI 1500 a3.Out)=true then(Xk L) a0 a1 a2 a3 true else if(ltI a3.Deep 0)=true then(Xk L) a0 a1 a2 a3 true else(Xk L) a0 a1 a2 a3 (ltI 6 a3.Deep)
theorem Jmy:Jd2 KG=Jbe:=by
 unfold Jd2 Jbe
 simp only[JnU]
noncomputable def JhM(L:Yr)(a0:List Source)(a1:Int)(a2:List Macro)(a3:Limits):Option Yn :=
 (Zg a0).bind fun r1=>if(!eqI r1.Err 0)=true then some (([]:List Token),([]:List Int),([]:List Macro),r1.Err,r1.File,r1.At) else if(ltI a1 0)=true then(Jd2 L) a0 a1 a2 a3 true else(Jd2 L) a0 a1 a2 a3 (leI (a0.length:Int) a1)
theorem Js2:JhM KG=XN:=by
 unfold JhM XN
 simp only[Jmy]
noncomputable def Jg0(L:Yr)(a0:List Source)(a1:Int):Option YM :=
 (JbX).bind fun r1=>((JhM L) a0 a1 ([]:List Macro) r1).bind fun r2=>(JdJ r2.1).bind fun r3=>some (r3,r2.2.2.2.1)
theorem Jss:Jg0 KG=JdS:=by
 unfold Jg0 JdS
 simp only[Js2]
noncomputable def Jf5(L:Yr)  : Option Bool :=
 ((Jg0 L) [(⟨[109],[35,100,101,102,105,110,101,32,65,32,66,10,35,100,101,102,105,110,101,32,66,32,65,32,120,10,65]⟩:Source)] 0).bind fun r1=>if(eqI r1.2 0)=true then ZY (eqS r1.1 [65,32,120]) else ZY false
theorem Jni:Jf5 KG=Zz:=by
 unfold Jf5 Zz
 simp only[Jss]
theorem JlV:Zz=Jf5 Jow:=by rw[← Jw7,Jni]
end Go.Proofs.YtfkhlbhjhdpkoaaGreatDoor
