/- drive.Run: from a file's end to what is handed back; include lines. Plain. -/
import Derived.Test.YtfkhlbhjhdpkoaaGreatDoorZobr
set_option linter.unusedVariables false
set_option linter.unusedSimpArgs false
namespace Go.Proofs.YtfkhlbhjhdpkoaaGreatDoor
open Go.RowKit
theorem JwQ{R:Type}{b:Int×Int→Option ((Int×Int) ⊕ R)}(n:Nat)(r:R)(h:∀ j:Nat,j<n→b ((n:Int),(j:Int))=some (.inl ((n:Int),((j+1:Nat):Int))))(he:b ((n:Int),(n:Int))=some (.inr r)):∀ k j:Nat,j+k=n→Jt b ((n:Int),(j:Int))=some r
 | 0,j,e=>by
  obtain rfl:j=n:=by omega
  rw[JE,he]
 | k+1,j,e=>by
  rw[JE,h j (by omega)]
  exact JwQ n r h he k (j+1) (by omega)
theorem JAN{R:Type}{b:Int×Int→Option ((Int×Int) ⊕ R)}(n:Nat)(r:R)(h:∀ j:Nat,j<n→b ((n:Int),(j:Int))=some (.inl ((n:Int),((j+1:Nat):Int))))(he:b ((n:Int),(n:Int))=some (.inr r)):Jt b ((n:Int),0)=some r :=
 JwQ n r h he n 0 (by omega)
theorem JCs(fs:List Source)(h8:fs.length≤8)(h:∀ j,j<fs.length→Jby (fs.getD j default).Path=some true∧(fs.getD j default).Text.length≤3000∧(0<j→Op.bytesLess (fs.getD (j-1) default).Path (fs.getD j default).Path=true)):Jbw fs=some ⟨0,-1,0⟩:=by
 unfold Jbw
 rw[if_neg (by simp only[ltI,decide_eq_true_eq]; omega)]
 refine JAN fs.length _ (fun j hj=>?_) ?_
 ·obtain⟨h1,h2,h3⟩:=h j hj
  simp only[Jdc,ltI,decide_eq_true_eq,Int.toNat_natCast]
  rw[if_pos (by omega),if_pos (by omega),h1]
  simp only[Option.bind_some,Bool.not_true,Bool.false_eq_true,if_false]
  rw[if_neg (by omega)]
  by_cases h0:(0:Int)<(j:Int)
  ·rw[if_pos h0]
   have e:IntKind.i64.wrap ((j:Int)-1)=((j-1:Nat):Int):=wNm j (by omega)
   rw[e,if_pos (by omega),Int.toNat_natCast,h3 (by omega)]
   simp only[JbH,Bool.not_true,Bool.false_eq_true,if_false,wN1 j (by omega)]
  rw[if_neg h0]
  simp only[JbH,Bool.false_eq_true,if_false,wN1 j (by omega)]
 simp only[Jdc,ltI,decide_eq_true_eq]
 rw[if_neg (by omega)]; rfl
theorem JAF(fs:List Source)(root:Nat)(hr:root<fs.length)(hw:Jbw fs=some ⟨0,-1,0⟩)(D:Int)(hD:0≤D∧D≤6){r:GR Yi Yq}
  (h:(Ji bigF).1 (root:Int) fs 4000 1500 D [] [] [] 0 []=some r) :
  Jad fs (root:Int) [] ⟨4000,1500,D⟩=match r with
   | .ok x=>some (x.2.2.2.2.2,x.2.2.2.1,x.2.1,0,-1,0)
   | .er e=>some ([],[],[],e.1,e.2.1,e.2.2.1):=by
 have h:Jfe (root:Int) fs 4000 1500 D [] [] [] 0 []=some r:=h
 unfold Jad
 rw[hw]
 simp only[Option.bind_some,ltI,leI,decide_eq_true_eq]
 rw[if_neg (by decide),if_neg (by omega),decide_eq_false (show ¬ (fs.length:Int)≤(root:Int) by omega)]
 simp only[JeF,Bool.false_eq_true,if_false,ltI,decide_eq_true_eq]
 rw[if_neg (by decide),if_neg (by decide),if_neg (by decide),if_neg (by decide),if_neg (by omega),decide_eq_false (show ¬ (6:Int)<D by omega)]
 simp only[X0,Bool.false_eq_true,if_false]
 rw[show JZ []=some () from rfl]
 simp only[Option.bind_some,h]
 cases r with
 | ok x=>rfl
 | er e =>
  simp only[grB,Jc3,Option.bind_some,Jda]
  split <;> rfl
theorem Jj5(n:Nat):(Ji (n+1)).1=V8 (Ji n).1 (Ji n).2.1 (Ji n).2.2:=rfl
theorem Ji3(n:Nat):(Ji (n+1)).2.1=JF (Ji n).1 (Ji n).2.1 (Ji n).2.2:=rfl
theorem JnV(n:Nat):(Ji (n+1)).2.2=Vn (Ji n).1 (Ji n).2.1 (Ji n).2.2:=rfl
section
variable (n:Nat) (fs:List Source) (F most D:Int) (M:List Macro) (o rd:List Int) (d:Int) (out:List Token) (a b c:Token)
theorem JvC(hb:b.Text=incT)(hk:c.Kind=4){nm:List UInt8}(hc:c.Text=34::(nm++[34]))(hn:nm.length≤1000){k:Nat}(hf:Xi fs c.File nm true=some (k:Int))(ho:o.length≤1000)(hno:(k:Int)∉o)(hd:0≤d∧d<D∧D≤100)
  {F':Int} {M':List Macro} {o' rd':List Int} {out':List Token} (h:(Ji (n+1)).1 (k:Int) fs F most D M o rd (d+1) out=some (.ok (F',M',o',rd',d+1,out'))) :
  (Ji (n+3)).2.1 [a,b,c] fs F most D M o rd d out=some (.ok (F',M',o',rd',d,out')):=by
 rw[Ji3]
 refine Jpw _ _ _ fs F most D M o rd d out [a,b,c] (by simp) hb ?_
 rw[JnV]
 refine JA3 _ _ _ fs F most D M o rd d out a b c nm hk hc hn hf (by omega) ho ?_
 rw[if_neg hno,if_neg (by omega),wr _ (by omega),h]
 simp only[grB]
 rw[wr _ (by omega),show d+1-1=d by omega]
theorem JB0(hb:b.Text=incT)(hk:c.Kind=4){nm:List UInt8}(hc:c.Text=34::(nm++[34]))(hn:nm.length≤1000){k:Nat}(hf:Xi fs c.File nm true=some (k:Int))(ho:o.length≤1000)(hno:(k:Int)∈o):
  (Ji (n+3)).2.1 [a,b,c] fs F most D M o rd d out=some (.ok (F,M,o,rd,d,out)):=by
 rw[Ji3]
 refine Jpw _ _ _ fs F most D M o rd d out [a,b,c] (by simp) hb ?_
 rw[JnV]
 refine JA3 _ _ _ fs F most D M o rd d out a b c nm hk hc hn hf (by omega) ho ?_
 rw[if_pos hno]
end
def incK(nm:List UInt8):List YM:=[(5,[35],true),(1,incT,false),(4,34::(nm++[34]),false)]
theorem Jun{nm:List UInt8}{ks:List YM}{ts:List Token}(h:ts.map keyT=incK nm++ks)(hk:∀ t r,ks=t::r→t.2.2=true):
  ∃ a b c R,ts=a::b::c::R∧JD ts=[a,b,c]::JD R∧R.map keyT=ks∧(a.Text=[35]∧a.Kind=5)∧b.Text=incT∧c.Text=34::(nm++[34])∧c.Kind=4:=by
 obtain⟨A,R,rfl,hA,hR⟩:=List.map_eq_append_iff.1 h
 unfold incK at hA
 obtain⟨a,A,rfl,k1,hA⟩:=List.map_eq_cons_iff.1 hA
 obtain⟨b,A,rfl,k2,hA⟩:=List.map_eq_cons_iff.1 hA
 obtain⟨c,A,rfl,k3,hA⟩:=List.map_eq_cons_iff.1 hA
 obtain rfl:=List.map_eq_nil_iff.1 hA
 have tx:∀ {t:Token} {x:Int×List UInt8×Bool},keyT t=x→t.Text=x.2.1∧t.Kind=x.1∧t.First=x.2.2:=fun h=>by rw[← h]; exact⟨rfl,rfl,rfl⟩
 refine⟨a,b,c,R,rfl,?_,hR,⟨(tx k1).1,(tx k1).2.1⟩,(tx k2).1,(tx k3).1,(tx k3).2.1⟩
 show Kn [a] (b::c::R)=_
 simp only[Kn,(tx k2).2.2,(tx k3).2.2,Bool.false_eq_true,if_false,List.cons_append,List.nil_append]
 cases R with
 | nil=>rfl
 | cons r R =>
  have hr:r.First=true:=hk (keyT r) (R.map keyT) (by rw[← hR]; rfl)
  simp only[Kn,hr,if_true]
  rfl
end Go.Proofs.YtfkhlbhjhdpkoaaGreatDoor
