/- Both scopes say the same. Plain. -/
import Derived.Test.YtaofbminodhcnaaZcbk
set_option linter.unusedVariables false
set_option linter.unusedSimpArgs false
namespace Go.Proofs.Ytaofbminodhcnaa
open Go.RowKit
section
variable {l:TL}
def FTn(l:TL)(q:GF)(x:Node):Prop:=∀ (al i_:EN) (er fi at_:Int) (m:MI),er≠0→al.length+nsz x≤BL→i_.length+nsz x≤BL→Sm (q al i_ x l er fi at_ m) fun z=>(toST z).1=er∧(toST z).2.1=fi∧(toST z).2.2.1=at_∧z.1.length≤al.length+nsz x∧z.2.1.length≤i_.length+nsz x
theorem Jba{q:GF}:∀ (r:List Node),(∀ y∈r,FTn l q y)→∀ (s:ST),s.1≠0→s.2.2.2.2.1.length+nszs r≤BL→s.2.2.2.2.2.length+nszs r≤BL→Sm (XJ q l r s) fun z=>z.1=s.1∧z.2.1=s.2.1∧z.2.2.1=s.2.2.1∧z.2.2.2.2.1.length≤s.2.2.2.2.1.length+nszs r∧z.2.2.2.2.2.length≤s.2.2.2.2.2.length+nszs r
 | [],_,s,h0,h1,h2=>by
  rw[XJ]
  exact Sm.some ⟨rfl,rfl,rfl,by omega,by omega⟩
 | y::r,h,s,h0,h1,h2=>by
  rw[XJ]
  rw[nszs]at h1 h2 ⊢
  refine(h y (by simp) _ _ _ _ _ _ h0 (by omega) (by omega)).bind ?_
  rintro z ⟨z1,z2,z3,z4,z5⟩
  have e4:(toST z).2.2.2.2.1=z.1:=rfl
  have e5:(toST z).2.2.2.2.2=z.2.1:=rfl
  refine(Jba r (fun y hy=>h y (List.mem_cons_of_mem _ hy)) (toST z) (by rw[z1]; exact h0) (by rw[e4]; omega) (by rw[e5]; omega)).mono ?_
  rintro w ⟨w1,w2,w3,w4,w5⟩
  rw[e4]at w4
  rw[e5]at w5
  exact⟨w1.trans z1,w2.trans z2,w3.trans z3,by omega,by omega⟩
theorem JvH{q:GF}{t:Int}{ks:List Node}{t0 t1:Int}{ps b:List Node}(hks:ks=⟨16,t0,[]⟩::⟨4,t1,[]⟩::(ps++[⟨5,-1,b⟩]))(hn:nszs ks≤BL)(al i_:EN)(er fi at_:Int)(m:MI):
  JL q al i_ ⟨3,t,ks⟩ l er fi at_ m=(q al i_ ⟨16,t0,[]⟩ l er fi at_ m).bind fun r6=>(KU al i_ t1 l r6.2.2.1 r6.2.2.2.1 r6.2.2.2.2.1 r6.2.2.2.2.2).bind fun r7 =>
   (XJ q l ps (r7.2.2.1,r7.2.2.2.1,r7.2.2.2.2.1,r7.2.2.2.2.2,r7.1,[])).bind fun z=>(XJ q l b z).bind fun z=>some (r7.1,r7.2.1,z.1,z.2.1,z.2.2.1,z.2.2.2.1):=by
 have hls:=Jdw ks
 have kl:ks.length=ps.length+3:=by rw[hks]; simp
 have k0:ks.getD 0 default=⟨16,t0,[]⟩:=by rw[hks]; rfl
 have k1:ks.getD 1 default=⟨4,t1,[]⟩:=by rw[hks]; rfl
 have hz0:nszs ks=1+(1+(nszs ps+(1+nszs b))):=by rw[hks]; simp[nszs,nsz,Jfg]
 have hlp:=Jdw ps
 have hlb:=Jdw b
 have hw:IntKind.i64.wrap ((ks.length:Int)-1)=((ps.length+2:Nat):Int):=by
  unfold BL at hn
  rw[wrI _ (by omega)]; omega
 have kz:ks.getD (ps.length+2) default=⟨5,-1,b⟩:=by
  rw[hks,List.getD_eq_getElem?_getD]
  simp
 have ktk:List.take (ps.length+2-2) (List.drop 2 ks)=ps:=by rw[hks]; simp
 unfold JL
 rw[if_neg (by simp[eqI]),if_neg (by simp[eqI]),if_neg (by simp[eqI]),if_pos (by simp[eqI])]
 simp only[hw,Int.toNat_natCast,k0,k1,ktk]
 rw[if_pos (by omega)]
 refine congrArg _ (funext fun r6=>?_)
 rw[if_pos (by omega)]
 refine congrArg _ (funext fun r7=>?_)
 have ho:Xj r7.1 r7.2.1=some ():=rfl
 rw[ho,Option.bind_some,if_pos (by omega)]
 rw[show(0:Int)=((0:Nat):Int) from rfl]
 rw[JwY (x:=⟨3,t,ks⟩) (ks:=ps) (by omega) ps 0 (r7.2.2.1,r7.2.2.2.1,r7.2.2.2.2.1,r7.2.2.2.2.2,r7.1,[]) rfl (Nat.zero_le _)]
 refine congrArg _ (funext fun z=>?_)
 simp only[Int.toNat_natCast,kz]
 rw[if_pos (by omega)]
 exact Jwz (ks:=b) (by omega) b 0 z rfl (Nat.zero_le _)
theorem JvN{q:GF}{t:Int}{ks:List Node}(hn:ks.length≤BL)(al i_:EN)(er fi at_:Int)(m:MI):
  JL q al i_ ⟨4,t,ks⟩ l er fi at_ m=(KU al i_ t l er fi at_ m).bind fun r4=>(XJ q l ks (toST r4)).bind fun z=>some (z.2.2.2.2.1,z.2.2.2.2.2,z.1,z.2.1,z.2.2.1,z.2.2.2.1):=by
 unfold JL
 rw[if_neg (by simp[eqI]),if_neg (by simp[eqI]),if_pos (by simp[eqI])]
 refine congrArg _ (funext fun r4=>?_)
 exact Jv6 (x:=⟨4,t,ks⟩) hn ks 0 (toST r4) rfl (Nat.zero_le _)
theorem JvQ{q:GF}{t:Int}{ks:List Node}(hn:ks.length≤BL)(al i_:EN)(er fi at_:Int)(m:MI):
  JL q al i_ ⟨5,t,ks⟩ l er fi at_ m=(XJ q l ks (er,fi,at_,m,al,[])).bind fun z=>some (al,i_,z.1,z.2.1,z.2.2.1,z.2.2.2.1):=by
 unfold JL
 rw[if_neg (by simp[eqI]),if_neg (by simp[eqI]),if_neg (by simp[eqI]),if_neg (by simp[eqI]),if_pos (by simp[eqI])]
 have ho:Xj al i_=some ():=rfl
 rw[ho,Option.bind_some]
 exact JwL (x:=⟨5,t,ks⟩) hn ks 0 (er,fi,at_,m,al,[]) rfl (Nat.zero_le _)
theorem JvB{q:GF}{k t:Int}{ks:List Node}(hn:ks.length≤BL)(h16:k≠16)(h10:k≠10)(h4:k≠4)(h3:k≠3)(h5:k≠5)(al i_:EN)(er fi at_:Int)(m:MI):
  JL q al i_ ⟨k,t,ks⟩ l er fi at_ m=(XJ q l ks (er,fi,at_,m,al,i_)).bind fun z=>some (z.2.2.2.2.1,z.2.2.2.2.2,z.1,z.2.1,z.2.2.1,z.2.2.2.1):=by
 unfold JL
 rw[if_neg (by simpa [eqI] using h16),if_neg (by simpa [eqI] using h10),if_neg (by simpa [eqI] using h4),if_neg (by simpa [eqI] using h3),if_neg (by simpa [eqI] using h5)]
 exact Jws (x:=⟨k,t,ks⟩) hn ks 0 (er,fi,at_,m,al,i_) rfl (Nat.zero_le _)
theorem Jtr{q:GF}{t:Int}{ks:List Node}(al i_:EN)(er fi at_:Int)(m:MI):
  JL q al i_ ⟨10,t,ks⟩ l er fi at_ m=(KM al i_ t l er fi at_ m).bind fun r=>some (al,i_,r.1,r.2.1,r.2.2.1,r.2.2.2):=by
 unfold JL
 rw[if_neg (by simp[eqI]),if_pos (by simp[eqI])]
 rfl
theorem Juz{q:GF}{t:Int}{ks:List Node}(ht:0≤t∧t<(l.length:Int))(al i_:EN)(er fi at_:Int)(m:MI):
  JL q al i_ ⟨16,t,ks⟩ l er fi at_ m=if Jai (l.getD t.toNat default).Text=true then some (al,i_,er,fi,at_,m) else(KM al i_ t l er fi at_ m).bind fun r=>some (al,i_,r.1,r.2.1,r.2.2.1,r.2.2.2):=by
 unfold JL
 rw[if_pos (by simp[eqI]),if_pos (by simp only; omega),JrI,Option.bind_some]
 cases Jai (l.getD t.toNat default).Text <;> rfl
theorem JtC(hl:TokOk l):∀ (k:Nat) (x:Node),nsz x≤k→TW l x→FTn l (JN k) x:=by
 intro k
 induction k with
 | zero=>intro x hx; have:=JlQ x; omega
 | succ k ih =>
  rintro ⟨kd,t,ks⟩ hx hw al i_ er fi at_ m h0 h1 h2
  rw[nsz]at hx h1 h2 ⊢
  rw[TW]at hw
  obtain⟨w1,w2,w3,w4⟩:=hw
  have hls:=Jdw ks
  have hkid:∀ y∈ks,FTn l (JN k) y:=fun y hy=>ih y (by have:=Jfo hy; omega) (JcY hy w4)
  show Sm (JL (JN k) al i_ ⟨kd,t,ks⟩ l er fi at_ m) _
  by_cases h16:kd=16
  ·subst h16
   rw[Juz (w2 (.inl rfl)),JrF hl (w2 (.inl rfl)) h0]
   split
   ·exact Sm.some ⟨rfl,rfl,rfl,by simp only; omega,by simp only; omega⟩
   ·exact Sm.some ⟨rfl,rfl,rfl,by simp only; omega,by simp only; omega⟩
  by_cases h10:kd=10
  ·subst h10
   rw[Jtr,JrF hl (w2 (.inr (.inl rfl))) h0]
   exact Sm.some ⟨rfl,rfl,rfl,by simp only; omega,by simp only; omega⟩
  by_cases h4:kd=4
  ·subst h4
   rw[JvN (by omega)]
   obtain⟨al',i',e,e1,e2⟩:=Jkt (m:=m) (fi:=fi) (at_:=at_) hl (w2 (.inr (.inr rfl))) h0 (show al.length≤BL by omega) (show i_.length≤BL by omega)
   rw[e,Option.bind_some]
   refine(Jba ks hkid (er,fi,at_,m,al',i') h0 (by simp only; omega) (by simp only; omega)).bind ?_
   rintro z ⟨z1,z2,z3,z4,z5⟩
   exact Sm.some ⟨z1,z2,z3,by simp only at z4 ⊢; omega,by simp only at z5 ⊢; omega⟩
  by_cases h3:kd=3
  ·obtain⟨t0,t1,ps,b,hks⟩:=w3 h3
   subst h3
   rw[JvH hks (by omega)]
   have hz0:nszs ks=1+(1+(nszs ps+(1+nszs b))):=by rw[hks]; simp[nszs,nsz,Jfg]
   have wn:TW l ⟨4,t1,[]⟩:=JcY (by rw[hks]; simp) w4
   rw[TW]at wn
   have wb:TW l ⟨5,-1,b⟩:=JcY (by rw[hks]; simp) w4
   rw[TW]at wb
   have n16:nsz ⟨16,t0,[]⟩=1:=by simp[nsz,nszs]
   refine(hkid ⟨16,t0,[]⟩ (by rw[hks]; simp) al i_ er fi at_ m h0 (by rw[n16]; omega) (by rw[n16]; omega)).bind ?_
   rintro r6 ⟨z1,z2,z3,z4,z5⟩
   rw[n16]at z4 z5
   have z1:r6.2.2.1=er:=z1
   have z2:r6.2.2.2.1=fi:=z2
   have z3:r6.2.2.2.2.1=at_:=z3
   rw[z1,z2,z3]
   obtain⟨al',i',e,e1,e2⟩:=Jkt (m:=r6.2.2.2.2.2) (fi:=fi) (at_:=at_) hl (wn.2.1 (.inr (.inr rfl))) h0 (show al.length≤BL by omega) (show i_.length≤BL by omega)
   rw[e,Option.bind_some]
   simp only
   refine(Jba ps (fun y hy=>hkid y (by rw[hks]; simp[hy])) (er,fi,at_,r6.2.2.2.2.2,al',[]) h0 (by simp only; omega) (by simp only[List.length_nil]; omega)).bind ?_
   rintro z ⟨y1,y2,y3,y4,y5⟩
   simp only[List.length_nil]at y1 y2 y3 y4 y5
   refine(Jba b (fun y hy=>ih y (by have:=Jfo hy; omega) (JcY hy wb.2.2.2)) z (by rw[y1]; exact h0) (by omega) (by omega)).bind ?_
   rintro z' ⟨x1,x2,x3,x4,x5⟩
   exact Sm.some ⟨x1.trans y1,x2.trans y2,x3.trans y3,by simp only; omega,by simp only; omega⟩
  by_cases h5:kd=5
  ·subst h5
   rw[JvQ (by omega)]
   refine(Jba ks hkid (er,fi,at_,m,al,[]) h0 (by simp only; omega) (by simp only[List.length_nil]; omega)).bind ?_
   rintro z ⟨z1,z2,z3,z4,z5⟩
   exact Sm.some ⟨z1,z2,z3,by simp only; omega,by simp only; omega⟩
  rw[JvB (by omega) h16 h10 h4 h3 h5]
  refine(Jba ks hkid (er,fi,at_,m,al,i_) h0 (by simp only; omega) (by simp only; omega)).bind ?_
  rintro z ⟨z1,z2,z3,z4,z5⟩
  exact Sm.some ⟨z1,z2,z3,by simp only at z4 ⊢; omega,by simp only at z5 ⊢; omega⟩
end
end Go.Proofs.Ytaofbminodhcnaa
