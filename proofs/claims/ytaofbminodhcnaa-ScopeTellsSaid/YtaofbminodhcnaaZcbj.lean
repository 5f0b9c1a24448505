/- Both scopes,side by side. Plain. -/
import Derived.Test.YtaofbminodhcnaaZcbc
import Derived.Test.YtaofbminodhcnaaZcbi
set_option linter.unusedVariables false
set_option linter.unusedSimpArgs false
namespace Go.Proofs.Ytaofbminodhcnaa
open Go.RowKit
abbrev ST:=Int×Int×Int×MI×EN×EN
abbrev GF:=EN→EN→Node→List Token→Int→Int→Int→MI→Option (EN×EN×Int×Int×Int×MI)
abbrev GO:=EN×EN×Int×Int×Int×MI
def toST(z:GO):ST:=(z.2.2.1,z.2.2.2.1,z.2.2.2.2.1,z.2.2.2.2.2,z.1,z.2.1)
noncomputable def XJ(q:GF)(l:TL):List Node→ST→Option ST
 | [],s=>some s
 | y::r,s=>(q s.2.2.2.2.1 s.2.2.2.2.2 y l s.1 s.2.1 s.2.2.1 s.2.2.2.1).bind fun z=>XJ q l r (toST z)
noncomputable def Ja4(q:WF)(l:TL):List Node→List KD→List Bind→Option (GR (Int×Int×Int×List KD×List Bind) (List KD×List Bind))
 | [],K,o=>some (.ok (K,o))
 | y::r,K,o=>Go.Proofs.Ytaofbminodhcnaa.grB (q y l K o) (fun z=>Ja4 q l r z.1 z.2) (fun e=>some (.er e))
section
variable {l:TL}
theorem JlW{q:WF}{x:Node}(hs:x.Kids.length≤BL):∀ (r:List Node) (i:Nat) (K:List KD) (o:List Bind),x.Kids.drop i=r→i≤x.Kids.length→Jt (Xw q x l) ((x.Kids.length:Int),(i:Int),K,o)=Ja4 q l r K o:=by
 intro r
 induction r with
 | nil =>
  intro i K o hd hi
  have:x.Kids.length≤i:=List.drop_eq_nil_iff.1 hd
  rw[Ky]
  simp only[Xw,ltI,decide_eq_true_eq]
  rw[if_neg (by omega),Vk,Ja4]
 | cons y r ih =>
  intro i K o hd hi
  obtain⟨h1,h2,h3⟩:=JdH hd
  rw[Ky]
  simp only[Xw,ltI,decide_eq_true_eq,Int.toNat_natCast]
  rw[if_pos (by omega),if_pos (by omega),h2,Ja4]
  cases q y l K o with
  | none=>rfl
  | some r0 =>
   cases r0 with
   | er e=>rfl
   | ok z =>
    simp only[Go.Proofs.Ytaofbminodhcnaa.grB]
    rw[wP (by omega),V9]
    exact ih (i+1) z.1 z.2 h3 (by omega)
theorem JvY{qk q:WF}{x z0:Node}(hs:x.Kids.length≤BL):∀ (r:List Node) (i:Nat) (K:List KD) (o:List Bind),x.Kids.drop i=r++[z0]→Jt (VY qk q x l) ((i:Int),K,o)=Go.Proofs.Ytaofbminodhcnaa.grB (Ja4 q l r K o) (fun z=>qk z0 l z.1 z.2) (fun e=>some (.er e)):=by
 intro r
 induction r with
 | nil =>
  intro i K o hd
  obtain⟨h1,h2,h3⟩:=JdH hd
  have h4:x.Kids.length≤i+1:=List.drop_eq_nil_iff.1 h3
  have hw:IntKind.i64.wrap ((x.Kids.length:Int)-1)=(i:Int):=by
   unfold BL at hs
   rw[wrI _ (by omega)]; omega
  rw[Ky]
  simp only[VY,ltI,decide_eq_true_eq,hw,Int.toNat_natCast]
  rw[if_neg (by omega),Vk,if_pos (by omega),h2,Ja4]
  simp only[Go.Proofs.Ytaofbminodhcnaa.grB]
  cases qk z0 l K o with
  | none=>rfl
  | some r0=>cases r0 <;> rfl
 | cons y r ih =>
  intro i K o hd
  obtain⟨h1,h2,h3⟩:=JdH hd
  obtain⟨h4,_,_⟩:=JdH (x:=(r++[z0]).headD default) (r:=(r++[z0]).tail) (h3.trans (by cases r <;> rfl))
  have hw:IntKind.i64.wrap ((x.Kids.length:Int)-1)=(x.Kids.length:Int)-1:=by
   unfold BL at hs
   rw[wrI _ (by omega)]
  rw[Ky]
  simp only[VY,ltI,decide_eq_true_eq,hw,Int.toNat_natCast]
  rw[if_pos (by omega),if_pos (by omega),h2,Ja4]
  cases q y l K o with
  | none=>rfl
  | some r0 =>
   cases r0 with
   | er e=>rfl
   | ok z =>
    simp only[Go.Proofs.Ytaofbminodhcnaa.grB]
    rw[wP (by omega),V9]
    exact ih (i+1) z.1 z.2 h3
theorem Jv6{q:GF}{x:Node}(hs:x.Kids.length≤BL):∀ (r:List Node) (i:Nat) (s:ST),x.Kids.drop i=r→i≤x.Kids.length→Jt (Zs q x l) ((x.Kids.length:Int),(i:Int),s)=(XJ q l r s).bind fun z=>some (z.2.2.2.2.1,z.2.2.2.2.2,z.1,z.2.1,z.2.2.1,z.2.2.2.1):=by
 intro r
 induction r with
 | nil =>
  rintro i ⟨s1,s2,s3,s4,s5,s6⟩ hd hi
  have:x.Kids.length≤i:=List.drop_eq_nil_iff.1 hd
  rw[Ky]
  simp only[Zs,ltI,decide_eq_true_eq]
  rw[if_neg (by omega),Vk,XJ]
  rfl
 | cons y r ih =>
  rintro i ⟨s1,s2,s3,s4,s5,s6⟩ hd hi
  obtain⟨h1,h2,h3⟩:=JdH hd
  rw[Ky]
  simp only[Zs,ltI,decide_eq_true_eq,Int.toNat_natCast]
  rw[if_pos (by omega),if_pos (by omega),h2,XJ]
  cases q s5 s6 y l s1 s2 s3 s4 with
  | none=>rfl
  | some z =>
   simp only[Option.bind_some]
   rw[wP (by omega),V9]
   exact ih (i+1) (toST z) h3 (by omega)
theorem Jws{q:GF}{x:Node}(hs:x.Kids.length≤BL):∀ (r:List Node) (i:Nat) (s:ST),x.Kids.drop i=r→i≤x.Kids.length→Jt (ZI q x l) ((x.Kids.length:Int),(i:Int),s)=(XJ q l r s).bind fun z=>some (z.2.2.2.2.1,z.2.2.2.2.2,z.1,z.2.1,z.2.2.1,z.2.2.2.1):=by
 intro r
 induction r with
 | nil =>
  rintro i ⟨s1,s2,s3,s4,s5,s6⟩ hd hi
  have:x.Kids.length≤i:=List.drop_eq_nil_iff.1 hd
  rw[Ky]
  simp only[ZI,ltI,decide_eq_true_eq]
  rw[if_neg (by omega),Vk,XJ]
  rfl
 | cons y r ih =>
  rintro i ⟨s1,s2,s3,s4,s5,s6⟩ hd hi
  obtain⟨h1,h2,h3⟩:=JdH hd
  rw[Ky]
  simp only[ZI,ltI,decide_eq_true_eq,Int.toNat_natCast]
  rw[if_pos (by omega),if_pos (by omega),h2,XJ]
  cases q s5 s6 y l s1 s2 s3 s4 with
  | none=>rfl
  | some z =>
   simp only[Option.bind_some]
   rw[wP (by omega),V9]
   exact ih (i+1) (toST z) h3 (by omega)
theorem JwL{q:GF}{x:Node}{a0 a1:EN}(hs:x.Kids.length≤BL):∀ (r:List Node) (i:Nat) (s:ST),x.Kids.drop i=r→i≤x.Kids.length→Jt (Zv q a0 a1 x l) ((x.Kids.length:Int),(i:Int),s)=(XJ q l r s).bind fun z=>some (a0,a1,z.1,z.2.1,z.2.2.1,z.2.2.2.1):=by
 intro r
 induction r with
 | nil =>
  rintro i ⟨s1,s2,s3,s4,s5,s6⟩ hd hi
  have:x.Kids.length≤i:=List.drop_eq_nil_iff.1 hd
  rw[Ky]
  simp only[Zv,ltI,decide_eq_true_eq]
  rw[if_neg (by omega),Vk,XJ]
  rfl
 | cons y r ih =>
  rintro i ⟨s1,s2,s3,s4,s5,s6⟩ hd hi
  obtain⟨h1,h2,h3⟩:=JdH hd
  rw[Ky]
  simp only[Zv,ltI,decide_eq_true_eq,Int.toNat_natCast]
  rw[if_pos (by omega),if_pos (by omega),h2,XJ]
  cases q s5 s6 y l s1 s2 s3 s4 with
  | none=>rfl
  | some z =>
   simp only[Option.bind_some]
   rw[wP (by omega),V9]
   exact ih (i+1) (toST z) h3 (by omega)
theorem Jwz{q:GF}{ks:List Node}{r7:GO}(hs:ks.length≤BL):∀ (r:List Node) (i:Nat) (s:ST),ks.drop i=r→i≤ks.length→Jt (XI q l r7) (ks,(ks.length:Int),(i:Int),s)=(XJ q l r s).bind fun z=>some (r7.1,r7.2.1,z.1,z.2.1,z.2.2.1,z.2.2.2.1):=by
 intro r
 induction r with
 | nil =>
  rintro i ⟨s1,s2,s3,s4,s5,s6⟩ hd hi
  have:ks.length≤i:=List.drop_eq_nil_iff.1 hd
  rw[Ky]
  simp only[XI,ltI,decide_eq_true_eq]
  rw[if_neg (by omega),Vk,XJ]
  rfl
 | cons y r ih =>
  rintro i ⟨s1,s2,s3,s4,s5,s6⟩ hd hi
  obtain⟨h1,h2,h3⟩:=JdH hd
  rw[Ky]
  simp only[XI,ltI,decide_eq_true_eq,Int.toNat_natCast]
  rw[if_pos (by omega),if_pos (by omega),h2,XJ]
  cases q s5 s6 y l s1 s2 s3 s4 with
  | none=>rfl
  | some z =>
   simp only[Option.bind_some]
   rw[wP (by omega),V9]
   exact ih (i+1) (toST z) h3 (by omega)
theorem JwY{q:GF}{x:Node}{la:Int}{ks:List Node}{r7:GO}(hs:ks.length≤BL):∀ (r:List Node) (i:Nat) (s:ST),ks.drop i=r→i≤ks.length→Jt (ZA q x l r7) (la,ks,(ks.length:Int),(i:Int),s)=(XJ q l r s).bind fun z=>if(0:Int)≤la∧la.toNat<x.Kids.length then Jt (XI q l r7) ((x.Kids.getD la.toNat default).Kids,(((x.Kids.getD la.toNat default).Kids).length:Int),0,z) else none:=by
 intro r
 induction r with
 | nil =>
  rintro i ⟨s1,s2,s3,s4,s5,s6⟩ hd hi
  have:ks.length≤i:=List.drop_eq_nil_iff.1 hd
  rw[Ky]
  simp only[ZA,ltI,decide_eq_true_eq]
  rw[if_neg (by omega),Vk,XJ]
  rfl
 | cons y r ih =>
  rintro i ⟨s1,s2,s3,s4,s5,s6⟩ hd hi
  obtain⟨h1,h2,h3⟩:=JdH hd
  rw[Ky]
  simp only[ZA,ltI,decide_eq_true_eq,Int.toNat_natCast]
  rw[if_pos (by omega),if_pos (by omega),h2,XJ]
  cases q s5 s6 y l s1 s2 s3 s4 with
  | none=>rfl
  | some z =>
   simp only[Option.bind_some]
   rw[wP (by omega),V9]
   exact ih (i+1) (toST z) h3 (by omega)
end
end Go.Proofs.Ytaofbminodhcnaa
