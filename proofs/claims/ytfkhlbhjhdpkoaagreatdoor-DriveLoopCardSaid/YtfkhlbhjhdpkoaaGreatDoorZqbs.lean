/- drive.Run: from a file's end to what is handed back; include lines. Plain. -/
import Derived.Test.YtfkhlbhjhdpkoaaGreatDoorZqbr
set_option linter.unusedVariables false
set_option linter.unusedSimpArgs false
namespace Go.Proofs.YtfkhlbhjhdpkoaaGreatDoor
open Go.RowKit
theorem JuT{R:Type}{b:Int×Int→Option ((Int×Int) ⊕ R)}(n:Nat)(r:R)(h:∀ j:Nat,j<n→b ((n:Int),(j:Int))=some (.inl ((n:Int),((j+1:Nat):Int))))(he:b ((n:Int),(n:Int))=some (.inr r)):∀ k j:Nat,j+k=n→Jv b ((n:Int),(j:Int))=some r
 | 0,j,e=>by
  obtain rfl:j=n:=by omega
  rw[J4,he]
 | k+1,j,e=>by
  rw[J4,h j (by omega)]
  exact JuT n r h he k (j+1) (by omega)
theorem Jy9{R:Type}{b:Int×Int→Option ((Int×Int) ⊕ R)}(n:Nat)(r:R)(h:∀ j:Nat,j<n→b ((n:Int),(j:Int))=some (.inl ((n:Int),((j+1:Nat):Int))))(he:b ((n:Int),(n:Int))=some (.inr r)):Jv b ((n:Int),0)=some r :=
 JuT n r h he n 0 (by omega)
theorem JBu(fs:List Source)(h8:fs.length≤8)(h:∀ j,j<fs.length→JcG (fs.getD j default).Path=some true∧(fs.getD j default).Text.length≤3000∧(0<j→Op.bytesLess (fs.getD (j-1) default).Path (fs.getD j default).Path=true)):Jbo fs=some ⟨0,-1,0⟩:=by
 unfold Jbo
 rw[if_neg (by simp only[ltI,decide_eq_true_eq]; omega)]
 refine Jy9 fs.length _ (fun j hj=>?_) ?_
 ·obtain⟨h1,h2,h3⟩:=h j hj
  simp only[Jc4,ltI,decide_eq_true_eq,Int.toNat_natCast]
  rw[if_pos (by omega),if_pos (by omega),h1]
  simp only[Option.bind_some,Bool.not_true,Bool.false_eq_true,if_false]
  rw[if_neg (by omega)]
  by_cases h0:(0:Int)<(j:Int)
  ·rw[if_pos h0]
   have e:IntKind.i64.wrap ((j:Int)-1)=((j-1:Nat):Int):=wNm j (by omega)
   rw[e,if_pos (by omega),Int.toNat_natCast,h3 (by omega)]
   simp only[Jbw,Bool.not_true,Bool.false_eq_true,if_false,wN1 j (by omega)]
  rw[if_neg h0]
  simp only[Jbw,Bool.false_eq_true,if_false,wN1 j (by omega)]
 simp only[Jc4,ltI,decide_eq_true_eq]
 rw[if_neg (by omega)]; rfl
theorem JEL(fs:List Source)(root:Nat)(hr:root<fs.length)(hw:Jbo fs=some ⟨0,-1,0⟩)(D:Int)(hD:0≤D∧D≤6){r:GR Yi Yq}
  (h:(Jo bigF).1 (root:Int) fs 4000 1500 D [] [] [] 0 []=some r) :
  Jdk fs (root:Int) [] ⟨4000,1500,D⟩=match r with
   | .ok x=>some (x.2.2.2.2.2,x.2.2.2.1,x.2.1,0,-1,0)
   | .er e=>some ([],[],[],e.1,e.2.1,e.2.2.1):=by
 have h:Je9 (root:Int) fs 4000 1500 D [] [] [] 0 []=some r:=h
 unfold Jdk
 rw[hw]
 simp only[Option.bind_some,ltI,leI,decide_eq_true_eq]
 rw[if_neg (by decide),if_neg (by omega),decide_eq_false (show ¬ (fs.length:Int)≤(root:Int) by omega)]
 simp only[Jeq,Bool.false_eq_true,if_false,ltI,decide_eq_true_eq]
 rw[if_neg (by decide),if_neg (by decide),if_neg (by decide),if_neg (by decide),if_neg (by omega),decide_eq_false (show ¬ (6:Int)<D by omega)]
 simp only[X0,Bool.false_eq_true,if_false]
 rw[show J6 []=some () from rfl]
 simp only[Option.bind_some,h]
 cases r with
 | ok x=>rfl
 | er e =>
  simp only[grB,Jc8,Option.bind_some,Jc9]
  split <;> rfl
theorem Ju1(n:Nat):(Jo (n+1)).1=Vl (Jo n).1 (Jo n).2.1 (Jo n).2.2:=rfl
theorem Jrx(n:Nat):(Jo (n+1)).2.1=VM (Jo n).1 (Jo n).2.1 (Jo n).2.2:=rfl
theorem Jns(n:Nat):(Jo (n+1)).2.2=Vi (Jo n).1 (Jo n).2.1 (Jo n).2.2:=rfl
section
variable (n:Nat) (fs:List Source) (F most D:Int) (M:List Macro) (o rd:List Int) (d:Int) (out:List Token) (a b c:Token)
theorem JBE(hb:b.Text=incT)(hk:c.Kind=4){nm:List UInt8}(hc:c.Text=34::(nm++[34]))(hn:nm.length≤1000){k:Nat}(hf:Xc fs c.File nm true=some (k:Int))(ho:o.length≤1000)(hno:(k:Int)∉o)(hd:D≤d):
  (Jo (n+3)).2.1 [a,b,c] fs F most D M o rd d out=some (.er (10,c.File,c.At,F,M,o,rd,d,out)):=by
 rw[Jrx]
 refine Jpj _ _ _ fs F most D M o rd d out [a,b,c] (by simp) hb ?_
 rw[Jns]
 refine Jzj _ _ _ fs F most D M o rd d out a b c nm hk hc hn hf (by omega) ho ?_
 rw[if_neg hno,if_pos hd]
theorem JEl(hb:b.Text=incT)(hk:c.Kind=4){nm:List UInt8}(hc:c.Text=34::(nm++[34]))(hn:nm.length≤1000){k:Nat}(hf:Xc fs c.File nm true=some (k:Int))(ho:o.length≤1000)(hno:(k:Int)∉o)(hd:0≤d∧d<D∧D≤100)
  {e:Int×Int×Int×Int×List Macro×List Int×List Int×Int×List Token} (h:(Jo (n+1)).1 (k:Int) fs F most D M o rd (d+1) out=some (.er e)) :
  (Jo (n+3)).2.1 [a,b,c] fs F most D M o rd d out=some (.er e):=by
 rw[Jrx]
 refine Jpj _ _ _ fs F most D M o rd d out [a,b,c] (by simp) hb ?_
 rw[Jns]
 refine Jzj _ _ _ fs F most D M o rd d out a b c nm hk hc hn hf (by omega) ho ?_
 rw[if_neg hno,if_neg (by omega),wr _ (by omega),h]
 simp only[grB]
end
def incK(nm:List UInt8):List YL:=[(5,[35],true),(1,incT,false),(4,34::(nm++[34]),false)]
end Go.Proofs.YtfkhlbhjhdpkoaaGreatDoor
