/- The same functions,with a lexer that is quick to reckon. Written by fastl.py. -/
import Derived.Test.YtfkhlbhjhdpkoaaGreatDoorZpax
import Derived.Test.YtfkhlbhjhdpkoaaGreatDoorZpbo
set_option linter.unusedVariables false
set_option linter.unusedSimpArgs false
namespace Go.Proofs.YtfkhlbhjhdpkoaaGreatDoor
open Go.RowKit
noncomputable def JpB(f:Int)(t:List UInt8):Option ((List Token)×Fault):=if t.length≤3000 then some (Jfz f t) else KO f t
theorem Jx6:KO=JpB:=by
 funext f t
 unfold JpB
 split
 ·exact JoW f t (by omega)
 rfl
noncomputable def Je6(L:Yt)(q1:Int→(List Source)→Int→Int→Int→(List Macro)→(List Int)→(List Int)→Int→(List Token)→Option Yd)(q2 q3:(List Token)→(List Source)→Int→Int→Int→(List Macro)→(List Int)→(List Int)→Int→(List Token)→Option Yd)(a0:Int)(a1:List Source)(a2 a3 a4:Int)(a5:List Macro)(a6 a7:List Int)(a8:Int)(a9:List Token):Option Yd :=
 if(a7.length + [a0].length) * 8≤140737488355328 then if(0:Int)≤a0∧a0.toNat<a1.length then(L a0 ((a1.getD a0.toNat default).Text)).bind fun r1=>grB (Jb8 r1.2) (fun r2=>(JcI r1.1).bind fun r3=>Jy (Jv q2 a1 a3 a4 r3) (0,(r3.length:Int),0,a2,a5,a6,a7++[a0],a8,([]:List drive_group),([]:List Token),a9)) (fun e1=>some (.er (r1.2.Err,r1.2.File,r1.2.At,a2,a5,a6,a7++[a0],a8,a9))) else none else none
theorem Jic:Je6 KO=Va:=by
 rfl
noncomputable def JJ(L:Yt):Nat→Yc×Yb×Yb
 | 0=>(fun _ _ _ _ _ _ _ _ _ _=>none,fun _ _ _ _ _ _ _ _ _ _=>none,fun _ _ _ _ _ _ _ _ _ _=>none)
 | n+1=>((Je6 L) (((JJ L) n).1) (((JJ L) n).2.1) (((JJ L) n).2.2),JD (((JJ L) n).1) (((JJ L) n).2.1) (((JJ L) n).2.2),KG (((JJ L) n).1) (((JJ L) n).2.1) (((JJ L) n).2.2))
theorem JdH:∀ n,JJ KO n=Jh n
 | 0=>rfl
 | n+1=>by
  rw[JJ,Jh,JdH n]
  simp only[Jic]
noncomputable def Jdo(L:Yt):Int→(List Source)→Int→Int→Int→(List Macro)→(List Int)→(List Int)→Int→(List Token)→Option Yd:=((JJ L) bigF).1
theorem Jjz:Jdo KO=Jal:=by
 unfold Jdo Jal
 simp only[JdH]
noncomputable def Xl(L:Yt)(a0:List Source)(a1:Int)(a2:List Macro)(a3:Limits):Bool→Option Yo
 | x2=>if x2=true then some (([]:List Token),([]:List Int),([]:List Macro),3,(-1),0) else(JM a2).bind fun r2=>grB ((Jdo L) a1 a0 a3.Fuel a3.Out a3.Deep a2 ([]:List Int) ([]:List Int) 0 []) (fun r3=>(Jes 0 (-1) 0).bind fun r4=>(JeA 0 (-1) 0 r3.2.2.2.2.2 r3.2.2.2.1 r3.2.1).bind fun r5=>some (r5.1,r5.2.1,r5.2.2,0,(-1),0)) (fun e1=>(Ja4 0 0 0 e1.1 e1.2.1 e1.2.2.1).bind fun r6=>(JaV e1.1 e1.2.1 e1.2.2.1 ([]:List Token) ([]:List Int) ([]:List Macro)).bind fun r7=>some (r7.1,r7.2.1,r7.2.2,e1.1,e1.2.1,e1.2.2.1))
theorem Joc:Xl KO=Vq:=by
 unfold Xl Vq
 simp only[Jjz]
noncomputable def Jd9(L:Yt)(a0:List Source)(a1:Int)(a2:List Macro)(a3:Limits):Bool→Option Yo
 | x1=>if x1=true then some (([]:List Token),([]:List Int),([]:List Macro),6,(-1),0) else if(ltI a3.Fuel 0)=true then(Xl L) a0 a1 a2 a3 true else if(ltI 4000 a3.Fuel)=true then(Xl L) a0 a1 a2 a3 true else if(ltI a3.Out 0)=true then(Xl L) a0 a1 a2 a3 true else if(ltI 1500 a3.Out)=true then(Xl L) a0 a1 a2 a3 true else if(ltI a3.Deep 0)=true then(Xl L) a0 a1 a2 a3 true else(Xl L) a0 a1 a2 a3 (ltI 6 a3.Deep)
theorem Jm4:Jd9 KO=Jbi:=by
 unfold Jd9 Jbi
 simp only[Joc]
noncomputable def Jh6(L:Yt)(a0:List Source)(a1:Int)(a2:List Macro)(a3:Limits):Option Yo :=
 (Zs a0).bind fun r1=>if(!eqI r1.Err 0)=true then some (([]:List Token),([]:List Int),([]:List Macro),r1.Err,r1.File,r1.At) else if(ltI a1 0)=true then(Jd9 L) a0 a1 a2 a3 true else(Jd9 L) a0 a1 a2 a3 (leI (a0.length:Int) a1)
theorem Juw:Jh6 KO=JbR:=by
 unfold Jh6 JbR
 simp only[Jm4]
noncomputable def Jg9(L:Yt)(a0:List Source)(a1:Int):Option YP :=
 (Jdh).bind fun r1=>((Jh6 L) a0 a1 ([]:List Macro) r1).bind fun r2=>(Jbn r2.1).bind fun r3=>some (r3,r2.2.2.2.1)
theorem Js4:Jg9 KO=JbH:=by
 unfold Jg9 JbH
 simp only[Juw]
noncomputable def JfW(L:Yt)  : Option Bool :=
 ((Jg9 L) [(⟨[109],[35,100,101,102,105,110,101,32,65,32,66,10,35,100,101,102,105,110,101,32,66,32,65,32,120,10,65]⟩:Source)] 0).bind fun r1=>if(eqI r1.2 0)=true then ZV (eqS r1.1 [65,32,120]) else ZV false
theorem Jnq:JfW KO=ZO:=by
 unfold JfW ZO
 simp only[Js4]
theorem Jmk:ZO=JfW JpB:=by rw[← Jx6,Jnq]
end Go.Proofs.YtfkhlbhjhdpkoaaGreatDoor
