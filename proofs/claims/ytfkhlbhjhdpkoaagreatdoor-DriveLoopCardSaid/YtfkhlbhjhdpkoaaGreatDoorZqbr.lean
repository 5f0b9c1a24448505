/- A file with a guard,or that says once: what comes of it. Plain. -/
import Derived.Test.YtfkhlbhjhdpkoaaGreatDoorZqbn
import Derived.Test.YtfkhlbhjhdpkoaaGreatDoorZqbq
set_option linter.unusedVariables false
set_option linter.unusedSimpArgs false
namespace Go.Proofs.YtfkhlbhjhdpkoaaGreatDoor
open Go.RowKit
abbrev Q1:=Int→List Source→Int→Int→Int→List Macro→List Int→List Int→Int→List Token→Option Yd
abbrev Q2:=List Token→List Source→Int→Int→Int→List Macro→List Int→List Int→Int→List Token→Option Yd
theorem JC7(q1:Q1)(q2 q3:Q2)(fs:List Source)(F most D:Int)(M:List Macro)(o rd:List Int)(d:Int)(out:List Token)(k:Nat)(hk:k<fs.length){ts:List Token}(ht:Kt (k:Int) (fs.getD k default).Text=(ts,⟨0,-1,0⟩))(hl:(fs.getD k default).Text.length≤3000)(hrd:rd.length≤1000):
  Vl q1 q2 q3 (k:Int) fs F most D M o rd d out=Jv (JP q2 fs most D (VJ ts)) (0,((VJ ts).length:Int),0,F,M,o,rd++[(k:Int)],d,[],[],out):=by
 unfold Vl
 have hs:=(Jnl (k:Int) (fs.getD k default).Text).1
 rw[ht]at hs
 rw[if_pos (by simp only[List.length_cons,List.length_nil]; omega),if_pos (by omega),Int.toNat_natCast,Jy2 _ _ (by omega),ht]
 simp only[Option.bind_some,Jxi,grB]
 rw[JAN ts (by simp only at hs; omega)]
 rfl
theorem JBe(B:List Token)(hB:∀ t r,B=t::r→t.First=true):(VJ B).flatten=B∧∀ L∈VJ B,0<L.length∧L.getD 0 default∈B:=by
 obtain⟨h1,h2⟩:=Jzs B hB
 refine⟨h1,fun L hL=>?_⟩
 obtain⟨t,r,rfl,_,_⟩:=h2 L hL
 refine⟨by simp,?_⟩
 rw[← h1,List.mem_flatten]
 exact⟨_,hL,by simp⟩
theorem JyH(B:List Token):(VJ B).length≤B.length:=by
 cases B with
 | nil=>simp[VJ]
 | cons t r=>simp only[VJ,List.length_cons]; exact Jkg r [t]
theorem JDl{A:Type} [Inhabited A] (P R:List A) (x:A) {n:Nat} (hn:n=P.length):(P++x::R).getD n default=x:=by
 subst hn
 simp[List.getD_eq_getElem?_getD]
section
variable (q1:Q1) (q2 q3:Q2) (p1:Q1) (p2 p3:Q2) (fs:List Source) (F most D:Int) (M:List Macro) (o rd:List Int) (d:Int) (out:List Token)
end
end Go.Proofs.YtfkhlbhjhdpkoaaGreatDoor
