/- A file's lines,one by one. Plain. -/
import Derived.Test.YtfkhlbhjhdpkoaaGreatDoorZqbl
import Derived.Test.YtfkhlbhjhdpkoaaGreatDoorZqbm
set_option linter.unusedVariables false
set_option linter.unusedSimpArgs false
namespace Go.Proofs.YtfkhlbhjhdpkoaaGreatDoor
open Go.RowKit
theorem Jxi:Jdx ⟨0,-1,0⟩=some (.ok ()):=rfl
theorem JBn(M:List Macro)(fs:List Source)(most D d:Int)(o rd:List Int)(out:List Token)(gv:Token→Int×List UInt8×Int×Bool)(l:List Token)(hl:l.length≤1500)(F:Int)(hF:(l.length:Int)≤F∧F≤4000)(hm:((out.length+l.length:Nat):Int)≤most∧most≤1500)
  (h:∀ t∈l,(∀ f,JF t M fs f most=some (gv t))∧V9 M t.Text=some (-1)∧t.Hide=[]) :
  KZ l fs F most D M o rd d out=some (.ok (F-(l.length:Int),out++l.map (fun t=>gvT t (gv t)))):=by
 unfold KZ
 cases l with
 | nil=>simp[eqI]
 | cons t l =>
  rw[if_neg (by simp only[eqI,decide_eq_true_eq,List.length_cons]; omega)]
  unfold Zq
  rw[JEB M fs most gv (t::l) hl F hF (by omega) h]
  simp only[Option.bind_some,Jxi,grB,List.length_map,ltI,decide_eq_true_eq]
  rw[if_pos (by omega),if_neg (by omega)]
theorem JAH(gs:List drive_group):KT 0 gs=some true:=by
 unfold KT JQ JV
 rw[J4]; rfl
section
variable (q2:List Token→List Source→Int→Int→Int→List Macro→List Int→List Int→Int→List Token→Option Yd)
variable (fs:List Source) (most D:Int) (lines:List (List Token)) (x1 i:Nat) (F:Int) (M:List Macro) (o rd:List Int) (d:Int) (gs:List drive_group) (wait out:List Token)
theorem JyO(hi:i<lines.length)(hn:lines.length≤1099511627776)(hne:0<(lines.getD i default).length)(ht:((lines.getD i default).getD 0 default).Text≠[35]){b:Bool}(hr:KT x1 gs=some b)(hw:wait.length+(lines.getD i default).length≤1099511627):
  JP q2 fs most D lines (x1,(lines.length:Int),(i:Int),F,M,o,rd,d,gs,wait,out)=some (.inl (x1,(lines.length:Int),((i+1:Nat):Int),F,M,o,rd,d,gs,if b=true then wait++lines.getD i default else wait,out)):=by
 simp only[JP,ltI,decide_eq_true_eq,Int.toNat_natCast,eqS]
 rw[if_pos (by omega),if_pos (by omega),if_pos hne,if_pos (JEF ht)]
 simp only[VO,if_true,hr,Option.bind_some]
 cases b
 ·simp only[Bool.false_eq_true,if_false,VP,Kw,wN1 i (by omega)]
 simp only[if_true]
 rw[if_pos (by omega)]
 simp only[VP,Kw,wN1 i (by omega)]
theorem JzO(hi:i<lines.length)(hn:lines.length≤1099511627776){L:List Token}(hL:lines.getD i default=L)(h1:1<L.length)(ht:(L.getD 0 default).Text=[35])(hk:(L.getD 0 default).Kind=5){F1:Int}{out1:List Token}(hf:KZ wait fs F most D M o rd d out=some (.ok (F1,out1))):
  JP q2 fs most D lines (x1,(lines.length:Int),(i:Int),F,M,o,rd,d,gs,wait,out) =
  grB (KB x1 L fs F1 most D M o rd d gs out1) (fun r6=>if(!r6.2.1)=true then(KT r6.1 r6.2.2.2).bind fun r8=>K9 q2 fs most D (lines.length:Int) (i:Int) M o rd d L (F1,out1) r6 (r6.1,r8) else K9 q2 fs most D (lines.length:Int) (i:Int) M o rd d L (F1,out1) r6 (r6.1,false)) (fun e3=>inrO (some (.er (e3.1,e3.2.1,e3.2.2.1,e3.2.2.2,M,o,rd,d,out1)))):=by
 simp only[JP,ltI,decide_eq_true_eq,Int.toNat_natCast,eqS,hL]
 rw[if_pos (by omega),if_pos (by omega),if_pos (by omega),if_neg (JEu ht),if_pos (by omega)]
 simp only[VO,hk]
 rw[if_neg (by decide)]
 simp only[hf,grB,eqI,decide_eq_true_eq]
 rw[if_neg (by omega)]
theorem JEJ(hi:i<lines.length)(hn:lines.length≤1099511627776){L:List Token}(hL:lines.getD i default=L)(h1:1<L.length)(ht:(L.getD 0 default).Text=[35])(hk:(L.getD 0 default).Kind=5){F1:Int}{out1:List Token}(hf:KZ wait fs F most D M o rd d out=some (.ok (F1,out1)))
  {y1:Nat} {F2:Int} {gs':List drive_group} (hb:KB x1 L fs F1 most D M o rd d gs out1=some (.ok (y1,false,F2,gs'))) (hr:KT y1 gs'=some true)
  {e:Int×Int×Int×Int×List Macro×List Int×List Int×Int×List Token} (hq:q2 L fs F2 most D M o rd d out1=some (.er e)) :
  JP q2 fs most D lines (x1,(lines.length:Int),(i:Int),F,M,o,rd,d,gs,wait,out)=some (.inr (.er e)):=by
 rw[JzO q2 fs most D lines x1 i F M o rd d gs wait out hi hn hL h1 ht hk hf,hb]
 simp only[grB,Bool.not_false,if_true,hr,Option.bind_some,K9,hq,inrO]
 rfl
theorem Jnv(hn:lines.length≤3000){b:Bool}(hr:KT x1 gs=some b):∀ (k i:Nat) (wait:List Token),i+k≤lines.length→(∀ L∈(lines.drop i).take k,0<L.length∧(L.getD 0 default).Text≠[35])→wait.length+((lines.drop i).take k).flatten.length≤1000000 →
  Jv (JP q2 fs most D lines) (x1,(lines.length:Int),(i:Int),F,M,o,rd,d,gs,wait,out)=Jv (JP q2 fs most D lines) (x1,(lines.length:Int),((i+k:Nat):Int),F,M,o,rd,d,gs,if b=true then wait++((lines.drop i).take k).flatten else wait,out)
 | 0,i,wait,_,_,_=>by
  cases b <;> simp
 | k+1,i,wait,hi,hl,hw=>by
  have hd:lines.drop i=lines.getD i default::lines.drop (i+1):=Jtj lines i default (by omega)
  rw[hd,List.take_succ_cons]at hl hw ⊢
  rw[List.flatten_cons,List.length_append]at hw
  obtain⟨h1,h2⟩:=hl _ (List.mem_cons_self ..)
  rw[J4,JyO q2 fs most D lines x1 i F M o rd d gs wait out (by omega) (by omega) h1 h2 hr (by omega)]
  simp only
  have:=Jnv hn hr k (i+1) (if b=true then wait++lines.getD i default else wait) (by omega) (fun L hL=>hl L (List.mem_cons_of_mem _ hL)) (by cases b <;> simp only[Bool.false_eq_true,if_false,if_true,List.length_append] <;> omega)
  rw[this,show i+1+k=i+(k+1) by omega]
  cases b
  ·simp
  simp only[if_true,List.flatten_cons,List.append_assoc]
end
end Go.Proofs.YtfkhlbhjhdpkoaaGreatDoor
