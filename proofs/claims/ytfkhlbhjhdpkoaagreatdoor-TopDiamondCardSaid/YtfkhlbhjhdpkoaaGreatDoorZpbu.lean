/- drive.Run: from a file's end to what is handed back; include lines. Plain. -/
import Derived.Test.YtfkhlbhjhdpkoaaGreatDoorZpbt
set_option linter.unusedVariables false
set_option linter.unusedSimpArgs false
namespace Go.Proofs.YtfkhlbhjhdpkoaaGreatDoor
open Go.RowKit
theorem Ju1{R:Type}{b:Int×Int→Option ((Int×Int) ⊕ R)}(n:Nat)(r:R)(h:∀ j:Nat,j<n→b ((n:Int),(j:Int))=some (.inl ((n:Int),((j+1:Nat):Int))))(he:b ((n:Int),(n:Int))=some (.inr r)):∀ k j:Nat,j+k=n→Jy b ((n:Int),(j:Int))=some r
 | 0,j,e=>by
  obtain rfl:j=n:=by omega
  rw[Jz,he]
 | k+1,j,e=>by
  rw[Jz,h j (by omega)]
  exact Ju1 n r h he k (j+1) (by omega)
theorem Jzc{R:Type}{b:Int×Int→Option ((Int×Int) ⊕ R)}(n:Nat)(r:R)(h:∀ j:Nat,j<n→b ((n:Int),(j:Int))=some (.inl ((n:Int),((j+1:Nat):Int))))(he:b ((n:Int),(n:Int))=some (.inr r)):Jy b ((n:Int),0)=some r :=
 Ju1 n r h he n 0 (by omega)
theorem JAA(fs:List Source)(h8:fs.length≤8)(h:∀ j,j<fs.length→Jcc (fs.getD j default).Path=some true∧(fs.getD j default).Text.length≤3000∧(0<j→Op.bytesLess (fs.getD (j-1) default).Path (fs.getD j default).Path=true)):Zs fs=some ⟨0,-1,0⟩:=by
 unfold Zs
 rw[if_neg (by simp only[ltI,decide_eq_true_eq]; omega)]
 refine Jzc fs.length _ (fun j hj=>?_) ?_
 ·obtain⟨h1,h2,h3⟩:=h j hj
  simp only[Jcs,ltI,decide_eq_true_eq,Int.toNat_natCast]
  rw[if_pos (by omega),if_pos (by omega),h1]
  simp only[Option.bind_some,Bool.not_true,Bool.false_eq_true,if_false]
  rw[if_neg (by omega)]
  by_cases h0:(0:Int)<(j:Int)
  ·rw[if_pos h0]
   have e:IntKind.i64.wrap ((j:Int)-1)=((j-1:Nat):Int):=wNm j (by omega)
   rw[e,if_pos (by omega),Int.toNat_natCast,h3 (by omega)]
   simp only[Ja0,Bool.not_true,Bool.false_eq_true,if_false,wN1 j (by omega)]
  rw[if_neg h0]
  simp only[Ja0,Bool.false_eq_true,if_false,wN1 j (by omega)]
 simp only[Jcs,ltI,decide_eq_true_eq]
 rw[if_neg (by omega)]; rfl
theorem JDF(fs:List Source)(root:Nat)(hr:root<fs.length)(hw:Zs fs=some ⟨0,-1,0⟩)(D:Int)(hD:0≤D∧D≤6){r:GR Yj Yp}
  (h:(Jh bigF).1 (root:Int) fs 4000 1500 D [] [] [] 0 []=some r) :
  JbR fs (root:Int) [] ⟨4000,1500,D⟩=match r with
   | .ok x=>some (x.2.2.2.2.2,x.2.2.2.1,x.2.1,0,-1,0)
   | .er e=>some ([],[],[],e.1,e.2.1,e.2.2.1):=by
 have h:Jal (root:Int) fs 4000 1500 D [] [] [] 0 []=some r:=h
 unfold JbR
 rw[hw]
 simp only[Option.bind_some,ltI,leI,decide_eq_true_eq]
 rw[if_neg (by decide),if_neg (by omega),decide_eq_false (show ¬ (fs.length:Int)≤(root:Int) by omega)]
 simp only[Jbi,Bool.false_eq_true,if_false,ltI,decide_eq_true_eq]
 rw[if_neg (by decide),if_neg (by decide),if_neg (by decide),if_neg (by decide),if_neg (by omega),decide_eq_false (show ¬ (6:Int)<D by omega)]
 simp only[Vq,Bool.false_eq_true,if_false]
 rw[show JM []=some () from rfl]
 simp only[Option.bind_some,h]
 cases r with
 | ok x=>rfl
 | er e =>
  simp only[grB,Ja4,Option.bind_some,JaV]
  split <;> rfl
theorem JjN(n:Nat):(Jh (n+1)).1=Va (Jh n).1 (Jh n).2.1 (Jh n).2.2:=rfl
theorem JsH(n:Nat):(Jh (n+1)).2.1=JD (Jh n).1 (Jh n).2.1 (Jh n).2.2:=rfl
theorem Jwc(n:Nat):(Jh (n+1)).2.2=KG (Jh n).1 (Jh n).2.1 (Jh n).2.2:=rfl
section
variable (n:Nat) (fs:List Source) (F most D:Int) (M:List Macro) (o rd:List Int) (d:Int) (out:List Token) (a b c:Token)
theorem JyY(hb:b.Text=incT)(hk:c.Kind=4){nm:List UInt8}(hc:c.Text=34::(nm++[34]))(hn:nm.length≤1000){k:Nat}(hf:XR fs c.File nm true=some (k:Int))(ho:o.length≤1000)(hno:(k:Int)∉o)(hd:0≤d∧d<D∧D≤100)
  {F':Int} {M':List Macro} {o' rd':List Int} {out':List Token} (h:(Jh (n+1)).1 (k:Int) fs F most D M o rd (d+1) out=some (.ok (F',M',o',rd',d+1,out'))) :
  (Jh (n+3)).2.1 [a,b,c] fs F most D M o rd d out=some (.ok (F',M',o',rd',d,out')):=by
 rw[JsH]
 refine Jyh _ _ _ fs F most D M o rd d out [a,b,c] (by simp) hb ?_
 rw[Jwc]
 refine JDo _ _ _ fs F most D M o rd d out a b c nm hk hc hn hf (by omega) ho ?_
 rw[if_neg hno,if_neg (by omega),wr _ (by omega),h]
 simp only[grB]
 rw[wr _ (by omega),show d+1-1=d by omega]
end
def incK(nm:List UInt8):List YI:=[(5,[35],true),(1,incT,false),(4,34::(nm++[34]),false)]
theorem Jso{nm:List UInt8}{ks:List YI}{ts:List Token}(h:ts.map keyT=incK nm++ks)(hk:∀ t r,ks=t::r→t.2.2=true):
  ∃ a b c R,ts=a::b::c::R∧JC ts=[a,b,c]::JC R∧R.map keyT=ks∧(a.Text=[35]∧a.Kind=5)∧b.Text=incT∧c.Text=34::(nm++[34])∧c.Kind=4:=by
 obtain⟨A,R,rfl,hA,hR⟩:=List.map_eq_append_iff.1 h
 unfold incK at hA
 obtain⟨a,A,rfl,k1,hA⟩:=List.map_eq_cons_iff.1 hA
 obtain⟨b,A,rfl,k2,hA⟩:=List.map_eq_cons_iff.1 hA
 obtain⟨c,A,rfl,k3,hA⟩:=List.map_eq_cons_iff.1 hA
 obtain rfl:=List.map_eq_nil_iff.1 hA
 have tx:∀ {t:Token} {x:Int×List UInt8×Bool},keyT t=x→t.Text=x.2.1∧t.Kind=x.1∧t.First=x.2.2:=fun h=>by rw[← h]; exact⟨rfl,rfl,rfl⟩
 refine⟨a,b,c,R,rfl,?_,hR,⟨(tx k1).1,(tx k1).2.1⟩,(tx k2).1,(tx k3).1,(tx k3).2.1⟩
 show KE [a] (b::c::R)=_
 simp only[KE,(tx k2).2.2,(tx k3).2.2,Bool.false_eq_true,if_false,List.cons_append,List.nil_append]
 cases R with
 | nil=>rfl
 | cons r R =>
  have hr:r.First=true:=hk (keyT r) (R.map keyT) (by rw[← hR]; rfl)
  simp only[KE,hr,if_true]
  rfl
end Go.Proofs.YtfkhlbhjhdpkoaaGreatDoor
