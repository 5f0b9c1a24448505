/- drive.Run: from a file's end to what is handed back; include lines. Plain. -/
import Derived.Test.YtfkhlbhjhdpkoaaGreatDoorZrbv
set_option linter.unusedVariables false
set_option linter.unusedSimpArgs false
namespace Go.Proofs.YtfkhlbhjhdpkoaaGreatDoor
open Go.RowKit
theorem Jtp{R:Type}{b:Int×Int→Option ((Int×Int) ⊕ R)}(n:Nat)(r:R)(h:∀ j:Nat,j<n→b ((n:Int),(j:Int))=some (.inl ((n:Int),((j+1:Nat):Int))))(he:b ((n:Int),(n:Int))=some (.inr r)):∀ k j:Nat,j+k=n→Jt b ((n:Int),(j:Int))=some r
 | 0,j,e=>by
  obtain rfl:j=n:=by omega
  rw[Kv,he]
 | k+1,j,e=>by
  rw[Kv,h j (by omega)]
  exact Jtp n r h he k (j+1) (by omega)
theorem JxB{R:Type}{b:Int×Int→Option ((Int×Int) ⊕ R)}(n:Nat)(r:R)(h:∀ j:Nat,j<n→b ((n:Int),(j:Int))=some (.inl ((n:Int),((j+1:Nat):Int))))(he:b ((n:Int),(n:Int))=some (.inr r)):Jt b ((n:Int),0)=some r :=
 Jtp n r h he n 0 (by omega)
theorem Jzi(fs:List Source)(h8:fs.length≤8)(h:∀ j,j<fs.length→JbW (fs.getD j default).Path=some true∧(fs.getD j default).Text.length≤3000∧(0<j→Op.bytesLess (fs.getD (j-1) default).Path (fs.getD j default).Path=true)):Zg fs=some ⟨0,-1,0⟩:=by
 unfold Zg
 rw[if_neg (by simp only[ltI,decide_eq_true_eq]; omega)]
 refine JxB fs.length _ (fun j hj=>?_) ?_
 ·obtain⟨h1,h2,h3⟩:=h j hj
  simp only[Jcf,ltI,decide_eq_true_eq,Int.toNat_natCast]
  rw[if_pos (by omega),if_pos (by omega),h1]
  simp only[Option.bind_some,Bool.not_true,Bool.false_eq_true,if_false]
  rw[if_neg (by omega)]
  by_cases h0:(0:Int)<(j:Int)
  ·rw[if_pos h0]
   have e:IntKind.i64.wrap ((j:Int)-1)=((j-1:Nat):Int):=wNm j (by omega)
   rw[e,if_pos (by omega),Int.toNat_natCast,h3 (by omega)]
   simp only[JaU,Bool.not_true,Bool.false_eq_true,if_false,wN1 j (by omega)]
  rw[if_neg h0]
  simp only[JaU,Bool.false_eq_true,if_false,wN1 j (by omega)]
 simp only[Jcf,ltI,decide_eq_true_eq]
 rw[if_neg (by omega)]; rfl
theorem Jyv(fs:List Source)(root:Nat)(hr:root<fs.length)(hw:Zg fs=some ⟨0,-1,0⟩)(D:Int)(hD:0≤D∧D≤6){r:GR (Int×Int×Int×Int×List Macro×List Int×List Int×Int×List Token) (Int×List Macro×List Int×List Int×Int×List Token)}
  (h:(Jn bigF).1 (root:Int) fs 4000 1500 D [] [] [] 0 []=some r) :
  XN fs (root:Int) [] ⟨4000,1500,D⟩=match r with
   | .ok x=>some (x.2.2.2.2.2,x.2.2.2.1,x.2.1,0,-1,0)
   | .er e=>some ([],[],[],e.1,e.2.1,e.2.2.1):=by
 have h:Jal (root:Int) fs 4000 1500 D [] [] [] 0 []=some r:=h
 unfold XN
 rw[hw]
 simp only[Option.bind_some,ltI,leI,decide_eq_true_eq]
 rw[if_neg (by decide),if_neg (by omega),decide_eq_false (show ¬ (fs.length:Int)≤(root:Int) by omega)]
 simp only[Jbe,Bool.false_eq_true,if_false,ltI,decide_eq_true_eq]
 rw[if_neg (by decide),if_neg (by decide),if_neg (by decide),if_neg (by decide),if_neg (by omega),decide_eq_false (show ¬ (6:Int)<D by omega)]
 simp only[Vt,Bool.false_eq_true,if_false]
 rw[show JW []=some () from rfl]
 simp only[Option.bind_some,h]
 cases r with
 | ok x=>rfl
 | er e =>
  simp only[grB,JaT,Option.bind_some,JaR]
  split <;> rfl
theorem Jzd(n:Nat):(Jn (n+1)).1=K9 (Jn n).1 (Jn n).2.1 (Jn n).2.2:=rfl
theorem Jxx(n:Nat):(Jn (n+1)).2.1=VC (Jn n).1 (Jn n).2.1 (Jn n).2.2:=rfl
section
variable (n:Nat) (fs:List Source) (F most D:Int) (M:List Macro) (o rd:List Int) (d:Int) (out:List Token) (a b c:Token)
end
end Go.Proofs.YtfkhlbhjhdpkoaaGreatDoor
