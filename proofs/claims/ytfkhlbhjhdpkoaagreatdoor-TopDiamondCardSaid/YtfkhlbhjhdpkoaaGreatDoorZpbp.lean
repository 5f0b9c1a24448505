/- A file's lines,one by one. Plain. -/
import Derived.Test.YtfkhlbhjhdpkoaaGreatDoorZpbl
import Derived.Test.YtfkhlbhjhdpkoaaGreatDoorZpbm
set_option linter.unusedVariables false
set_option linter.unusedSimpArgs false
namespace Go.Proofs.YtfkhlbhjhdpkoaaGreatDoor
open Go.RowKit
theorem Jpa:Jb8 ⟨0,-1,0⟩=some (.ok ()):=rfl
theorem JAX(M:List Macro)(fs:List Source)(most D d:Int)(o rd:List Int)(out:List Token)(gv:Token→Int×List UInt8×Int×Bool)(l:List Token)(hl:l.length≤1500)(F:Int)(hF:(l.length:Int)≤F∧F≤4000)(hm:((out.length+l.length:Nat):Int)≤most∧most≤1500)
  (h:∀ t∈l,(∀ f,J8 t M fs f most=some (gv t))∧KB M t.Text=some (-1)∧t.Hide=[]) :
  JT l fs F most D M o rd d out=some (.ok (F-(l.length:Int),out++l.map (fun t=>gvT t (gv t)))):=by
 unfold JT
 cases l with
 | nil=>simp[eqI]
 | cons t l =>
  rw[if_neg (by simp only[eqI,decide_eq_true_eq,List.length_cons]; omega)]
  unfold Zd
  rw[JDW M fs most gv (t::l) hl F hF (by omega) h]
  simp only[Option.bind_some,Jpa,grB,List.length_map,ltI,decide_eq_true_eq]
  rw[if_pos (by omega),if_neg (by omega)]
theorem Jop(gs:List drive_group):J6 0 gs=some true:=by
 unfold J6 JL JN
 rw[Jz]; rfl
theorem JoZ(g:drive_group)(gs:List drive_group):J6 1 (g::gs)=some g.on_:=by
 unfold J6 JL JN
 cases hg:g.on_
 ·rw[Jz]
  simp only[JK,JbC]
  simp[ltI,hg,inrO,leI]
 rw[Jz]
 simp only[JK,JbC]
 simp only[ltI,List.length_cons]
 rw[if_pos (by decide),if_pos (by decide),if_pos (by simp)]
 simp only[List.getD_cons_zero,Int.toNat_zero,hg,Bool.not_true,Option.bind_some,Bool.false_eq_true,if_false]
 rw[Jz]; rfl
section
variable (q2:List Token→List Source→Int→Int→Int→List Macro→List Int→List Int→Int→List Token→Option Ye)
variable (fs:List Source) (most D:Int) (lines:List (List Token)) (x1 i:Nat) (F:Int) (M:List Macro) (o rd:List Int) (d:Int) (gs:List drive_group) (wait out:List Token)
theorem Joh(hi:i<lines.length)(hn:lines.length≤1099511627776)(hne:0<(lines.getD i default).length)(ht:((lines.getD i default).getD 0 default).Text≠[35]){b:Bool}(hr:J6 x1 gs=some b)(hw:wait.length+(lines.getD i default).length≤1099511627):
  Jv q2 fs most D lines (x1,(lines.length:Int),(i:Int),F,M,o,rd,d,gs,wait,out)=some (.inl (x1,(lines.length:Int),((i+1:Nat):Int),F,M,o,rd,d,gs,if b=true then wait++lines.getD i default else wait,out)):=by
 simp only[Jv,ltI,decide_eq_true_eq,Int.toNat_natCast,eqS]
 rw[if_pos (by omega),if_pos (by omega),if_pos hne,if_pos (JDm ht)]
 simp only[VE,if_true,hr,Option.bind_some]
 cases b
 ·simp only[Bool.false_eq_true,if_false,VB,JW,wN1 i (by omega)]
 simp only[if_true]
 rw[if_pos (by omega)]
 simp only[VB,JW,wN1 i (by omega)]
theorem JlS(hi:i<lines.length)(hn:lines.length≤1099511627776){L:List Token}(hL:lines.getD i default=L)(h1:1<L.length)(ht:(L.getD 0 default).Text=[35])(hk:(L.getD 0 default).Kind=5){F1:Int}{out1:List Token}(hf:JT wait fs F most D M o rd d out=some (.ok (F1,out1))):
  Jv q2 fs most D lines (x1,(lines.length:Int),(i:Int),F,M,o,rd,d,gs,wait,out) =
  grB (JG x1 L fs F1 most D M o rd d gs out1) (fun r6=>if(!r6.2.1)=true then(J6 r6.1 r6.2.2.2).bind fun r8=>Kl q2 fs most D (lines.length:Int) (i:Int) M o rd d L (F1,out1) r6 (r6.1,r8) else Kl q2 fs most D (lines.length:Int) (i:Int) M o rd d L (F1,out1) r6 (r6.1,false)) (fun e3=>inrO (some (.er (e3.1,e3.2.1,e3.2.2.1,e3.2.2.2,M,o,rd,d,out1)))):=by
 simp only[Jv,ltI,decide_eq_true_eq,Int.toNat_natCast,eqS,hL]
 rw[if_pos (by omega),if_pos (by omega),if_pos (by omega),if_neg (JDx ht),if_pos (by omega)]
 simp only[VE,hk]
 rw[if_neg (by decide)]
 simp only[hf,grB,eqI,decide_eq_true_eq]
 rw[if_neg (by omega)]
theorem Jnw(hi:i<lines.length)(hn:lines.length≤1099511627776){L:List Token}(hL:lines.getD i default=L)(h1:1<L.length)(ht:(L.getD 0 default).Text=[35])(hk:(L.getD 0 default).Kind=5){F1:Int}{out1:List Token}(hf:JT wait fs F most D M o rd d out=some (.ok (F1,out1)))
  {y1:Nat} {F2:Int} {gs':List drive_group} (hb:JG x1 L fs F1 most D M o rd d gs out1=some (.ok (y1,true,F2,gs'))) :
  Jv q2 fs most D lines (x1,(lines.length:Int),(i:Int),F,M,o,rd,d,gs,wait,out)=some (.inl (y1,(lines.length:Int),((i+1:Nat):Int),F2,M,o,rd,d,gs',[],out1)):=by
 rw[JlS q2 fs most D lines x1 i F M o rd d gs wait out hi hn hL h1 ht hk hf,hb]
 simp only[grB,Bool.not_true,Bool.false_eq_true,if_false,Kl,JW,wN1 i (by omega)]
theorem JDy(hi:i<lines.length)(hn:lines.length≤1099511627776){L:List Token}(hL:lines.getD i default=L)(h1:1<L.length)(ht:(L.getD 0 default).Text=[35])(hk:(L.getD 0 default).Kind=5){F1:Int}{out1:List Token}(hf:JT wait fs F most D M o rd d out=some (.ok (F1,out1)))
  {y1:Nat} {F2:Int} {gs':List drive_group} (hb:JG x1 L fs F1 most D M o rd d gs out1=some (.ok (y1,false,F2,gs'))) (hr:J6 y1 gs'=some false) :
  Jv q2 fs most D lines (x1,(lines.length:Int),(i:Int),F,M,o,rd,d,gs,wait,out)=some (.inl (y1,(lines.length:Int),((i+1:Nat):Int),F2,M,o,rd,d,gs',[],out1)):=by
 rw[JlS q2 fs most D lines x1 i F M o rd d gs wait out hi hn hL h1 ht hk hf,hb]
 simp only[grB,Bool.not_false,if_true,hr,Option.bind_some,Bool.false_eq_true,if_false,Kl,JW,wN1 i (by omega)]
theorem Jt0(hi:i<lines.length)(hn:lines.length≤1099511627776){L:List Token}(hL:lines.getD i default=L)(h1:1<L.length)(ht:(L.getD 0 default).Text=[35])(hk:(L.getD 0 default).Kind=5){F1:Int}{out1:List Token}(hf:JT wait fs F most D M o rd d out=some (.ok (F1,out1)))
  {y1:Nat} {F2:Int} {gs':List drive_group} (hb:JG x1 L fs F1 most D M o rd d gs out1=some (.ok (y1,false,F2,gs'))) (hr:J6 y1 gs'=some true)
  {F3:Int} {M':List Macro} {o' rd':List Int} {d':Int} {out':List Token} (hq:q2 L fs F2 most D M o rd d out1=some (.ok (F3,M',o',rd',d',out'))) :
  Jv q2 fs most D lines (x1,(lines.length:Int),(i:Int),F,M,o,rd,d,gs,wait,out)=some (.inl (y1,(lines.length:Int),((i+1:Nat):Int),F3,M',o',rd',d',gs',[],out')):=by
 rw[JlS q2 fs most D lines x1 i F M o rd d gs wait out hi hn hL h1 ht hk hf,hb]
 simp only[grB,Bool.not_false,if_true,hr,Option.bind_some,Kl,JW,hq,wN1 i (by omega)]
theorem Ji3{F1:Int}{out1:List Token}(hf:JT wait fs F most D M o rd d out=some (.ok (F1,out1))):
  Jv q2 fs most D lines (0,(lines.length:Int),(lines.length:Int),F,M,o,rd,d,gs,wait,out)=some (.inr (.ok (F1,M,o,rd,d,out1))):=by
 simp only[Jv,ltI,decide_eq_true_eq]
 rw[if_neg (by omega)]
 simp only[hf,grB,inrO]
 rfl
theorem Jie(hn:lines.length≤3000){b:Bool}(hr:J6 x1 gs=some b):∀ (k i:Nat) (wait:List Token),i+k≤lines.length→(∀ L∈(lines.drop i).take k,0<L.length∧(L.getD 0 default).Text≠[35])→wait.length+((lines.drop i).take k).flatten.length≤1000000 →
  Jy (Jv q2 fs most D lines) (x1,(lines.length:Int),(i:Int),F,M,o,rd,d,gs,wait,out)=Jy (Jv q2 fs most D lines) (x1,(lines.length:Int),((i+k:Nat):Int),F,M,o,rd,d,gs,if b=true then wait++((lines.drop i).take k).flatten else wait,out)
 | 0,i,wait,_,_,_=>by
  cases b <;> simp
 | k+1,i,wait,hi,hl,hw=>by
  have hd:lines.drop i=lines.getD i default::lines.drop (i+1):=Jsr lines i default (by omega)
  rw[hd,List.take_succ_cons]at hl hw ⊢
  rw[List.flatten_cons,List.length_append]at hw
  obtain⟨h1,h2⟩:=hl _ (List.mem_cons_self ..)
  rw[Jz,Joh q2 fs most D lines x1 i F M o rd d gs wait out (by omega) (by omega) h1 h2 hr (by omega)]
  simp only
  have:=Jie hn hr k (i+1) (if b=true then wait++lines.getD i default else wait) (by omega) (fun L hL=>hl L (List.mem_cons_of_mem _ hL)) (by cases b <;> simp only[Bool.false_eq_true,if_false,if_true,List.length_append] <;> omega)
  rw[this,show i+1+k=i+(k+1) by omega]
  cases b
  ·simp
  simp only[if_true,List.flatten_cons,List.append_assoc]
end
end Go.Proofs.YtfkhlbhjhdpkoaaGreatDoor
