/- preref9's declarations,plain. -/
import Derived.Test.YtaofbminodhcnaaZcax
set_option linter.unusedVariables false
set_option linter.unusedSimpArgs false
namespace Go.Proofs.Ytaofbminodhcnaa
open Go.RowKit
def EvOk(e:EB):Prop:=∀ w,ebV e w=true→Jf8 w=true∧keyB w=false
theorem EvOk.nil:EvOk []:=fun w h=>by simp[ebV,xGet]at h
theorem EvOk.cons{e:EB}{s:List UInt8}{b:Bool}(h:EvOk e)(h1:Jf8 s=true)(h2:keyB s=false):EvOk ((s,b)::e):=fun w hw=>by
 by_cases e1:w=s
 ·subst e1; exact⟨h1,h2⟩
 ·refine h w ?_
  unfold ebV at hw ⊢
  rw[xGet,if_neg e1]at hw
  exact hw
theorem WN.leads{l:TL}{p q r:Nat}{x:Node}(h:WN l q r x)(hp:p≤q)(hn:nms l p q=[]):WN l p r x:=by
 obtain⟨h1,h2,h3,h4,h5⟩:=h
 refine⟨by omega,h2,h3,?_,by omega⟩
 rw[h4,← JdL l hp (show q≤r by omega),hn,List.nil_append]
section
variable {l:TL} (hl:TokOk l)
include hl
theorem Jns{e:EB}{p:Nat}{er fi at_ d:Int}:XV e (p:Int) l er fi at_ d=some (Jai (wd l p) || ebV e (wd l p)):=by
 unfold XV
 simp only[V8,JrI,Option.bind_some,ZT]
 have hw:=JtS (p:=p) hl
 rw[if_pos hw]
 cases Jai (wd l p) <;> simp
theorem JlL{e:EB}(he:EvOk e){p:Nat}{er fi at_ d:Int}(hp:p≤l.length+1000):(p<l.length∧WN l p (p+1) ⟨16,(p:Int),[]⟩∧Xr e (p:Int) l er fi at_ d=some (((p+1:Nat):Int),er,fi,at_))∨(∃ er' fi' at',er'≠0∧Xr e (p:Int) l er fi at_ d=some (((p+1:Nat):Int),er',fi',at')):=by
 have hB:=lB hl
 have hlen:=hl.len
 unfold Xr
 rw[Jns hl,Option.bind_some]
 simp only[JaY]
 rw[wP (by unfold BL; omega)]
 cases hb:Jai (wd l p) || ebV e (wd l p) with
 | true =>
  refine .inl ?_
  simp only[Bool.or_eq_true]at hb
  rcases hb with hb | hb
  ·obtain⟨h1,h2⟩:=Xa hl (p:=p) rfl (JpY hb)
   have h3:=Jwn (l:=l) (p:=p) (fun h0=>by rw[h0]at hb; cases hb)
   refine⟨h1,WN.typ h1 ?_,rfl⟩
   rw[h2,← h3,hb]; rfl
  ·obtain⟨a1,a2⟩:=he _ hb
   obtain⟨h1,h2,h3⟩:=Jv8 hl a1 a2
   refine⟨h1,WN.typ h1 ?_,rfl⟩
   rw[h2,← h3]
   cases hbb:Jai (wd l p) with
   | false=>rfl
   | true =>
    have:=JpY hbb
    simp only[okW,Bool.and_eq_true,Bool.or_eq_true]at this
    rcases this.2 with h | h
    ·rw[a2]at h; cases h
    ·rw[a1]at h; cases h
 | false =>
  obtain⟨e1,f1,a1,h1,h2⟩:=Jfi (l:=l) (p:=p) (er:=er) (fi:=fi) (at_:=at_) (d:=d) (e:=2) (by decide) hB
  simp only[Bool.not_false,if_true,h2,Option.bind_some]
  exact .inr ⟨e1,f1,a1,h1,rfl⟩
abbrev R8D:=Int×List Node×Int×EB×Int×Int×Int×Int
def PD(l:TL)(D p:Nat)(r:R8D):Prop :=
 (r.2.2.2.2.1=0∧r.2.2.2.2.2.2.2=(D:Int)∧EvOk r.2.2.2.1∧∃ q:Nat,r.2.2.1=(q:Int)∧WN l p q ⟨4,r.1,r.2.1⟩∧r.2.2.2.1.length≤q)∨FE l D 1 r.2.2.1 r.2.2.2.2.1
omit hl in
theorem Jw4{e:EB}{s:List UInt8}{b:Bool}(hs:s.length≤9223372036854775807)(he:e.length≤100000):Z0 e s b=some ():=by
 unfold Z0
 rw[if_pos ⟨hs,by omega⟩]
theorem Jd8{D:Nat}(hD:D≤30){e:EB}(he:EvOk e){p:Nat}{typ:Bool}{fi at_:Int}(hp:p≤l.length)(hel:e.length≤p):Sm (KQ e (p:Int) typ l 0 fi at_ (D:Int)) (PD l D p):=by
 have hB:=lB hl
 have hlen:=hl.len
 refine Sm.loop (fun x:Int=>∃ q:Nat,x=(q:Int)∧p≤q∧q≤l.length∧nms l p q=[]) (fun x=>l.length-x.toNat) ?_ ⟨p,rfl,Nat.le_refl _,hp,Jp7 l p⟩
 rintro x ⟨q,rfl,h1,h2,h3⟩
 simp only[Xx,V8,Option.bind_some,eqS,decide_eq_true_eq]
 by_cases w1:wd l q=[42]
 ·obtain⟨a1,a2⟩:=Xa hl w1 (by decide)
  rw[if_pos w1,wP (by unfold BL; omega)]
  refine Sm.some ⟨⟨q+1,rfl,by omega,by omega,?_⟩,by simp only[Int.toNat_natCast]; omega⟩
  rw[← JdL l h1 (show q≤q+1 by omega),h3,Jfd l q a2]; rfl
 ·rw[if_neg w1]
  refine Sm.inrO ?_
  show Sm _ (PD l D p)
  rcases Jky (l:=l) (p:=q) (er:=0) (fi:=fi) (at_:=at_) (d:=(D:Int)) hB with⟨b1,b2,b3⟩|⟨e1,f1,a1,b1,b2⟩
  ·rw[b3]
   simp only[Option.bind_some,Xs,eqI,decide_true,Bool.not_true,Bool.false_eq_true,if_false,Int.toNat_natCast]
   have hnm:Jf8 (l.getD q default).Text=true∧keyB (l.getD q default).Text=false:=by
    simp only[Xo,eqI,Bool.and_eq_true,decide_eq_true_eq,Bool.not_eq_true']at b2
    exact⟨hl.name q b1 b2.1,b2.2⟩
   have htx:=hl.text q b1
   have he2:EvOk (((l.getD q default).Text,typ)::e):=he.cons hnm.1 hnm.2
   rw[if_pos (by omega),wP (by unfold BL; omega),V8,Option.bind_some]
   have w0:=WN.name b1 b2
   have fin:∀ (i:Nat) (er fi at_ dd:Int) (kids:List Node),(er=0∧dd=(D:Int)∧WN l q i ⟨4,(q:Int),kids⟩)∨(er≠0∧i≤l.length+10 * (40-D)+1)→Sm (VO e typ (q:Int) ((i:Int),(l.getD q default).Text,er,fi,at_,dd,kids)) (PD l D p):=by
    intro i er fi at_ dd kids h
    simp only[VO]
    rw[Jw4 htx (by omega),Option.bind_some]
    refine Sm.some ?_
    rcases h with⟨rfl,rfl,h⟩|⟨h,hh⟩
    ·exact .inl ⟨rfl,rfl,he2,i,rfl,h.leads h1 h3,by have:=h.1; simp only[List.length_cons]; omega⟩
    ·exact .inr ⟨h,i,rfl,hh⟩
   by_cases w2:wd l (q+1)=[91]
   ·obtain⟨a1,a2⟩:=Xa hl w2 (by decide)
    rw[if_pos w2,wP (by unfold BL; omega)]
    refine(Jhq hl hD e (q+1+1) 0 fi at_ (by omega) (by decide)).bind ?_
    rintro ⟨k6,t6,ks6,i6,er6,fi6,at6,d6⟩ h6
    simp only[List.length_nil,List.length_cons]
    rw[if_pos (by omega)]
    rcases h6 with⟨u1,u2,q6,u3,u4⟩|⟨u1,q6,u3,u4⟩
    ·simp only at u1 u2 u3 u4
     subst u1; subst u2; subst u3
     have hq6:=u4.2.1
     rcases Jcw (l:=l) (p:=q6) (er:=0) (fi:=fi6) (at_:=at6) (d:=(D:Int)) (s:=[93]) hB (by unfold BL; omega) with⟨c1,c2⟩|⟨c1,e1,f1,a3,c2,c3⟩
     ·obtain⟨a3,a4⟩:=Xa hl c1 (by decide)
      rw[c2,Option.bind_some]
      exact fin _ _ _ _ _ _ (.inl ⟨rfl,rfl,(w0.kid a1 a2 u4).skip a3 a4⟩)
     ·rw[c3,Option.bind_some]
      exact fin _ _ _ _ _ _ (.inr ⟨c2,by omega⟩)
    ·simp only at u1 u3
     subst u3
     obtain⟨e1,f1,a3,c2,c3⟩:=Jhk (l:=l) (p:=q6) (er:=er6) (fi:=fi6) (at_:=at6) (d:=d6) (s:=[93]) hB (by have:=lB2 hl u4 (by omega); omega) u1
     rw[c3,Option.bind_some]
     exact fin _ _ _ _ _ _ (.inr ⟨c2,by omega⟩)
   ·rw[if_neg w2]
    exact fin _ _ _ _ _ _ (.inl ⟨rfl,rfl,w0⟩)
  ·rw[b2]
   simp only[Option.bind_some,Xs,eqI,b1,decide_false,Bool.not_false,if_true]
   exact Sm.some (.inr ⟨b1,q,rfl,by omega⟩)
theorem Jqb{e:EB}{p:Nat}{typ:Bool}{er fi at_ d:Int}(hp:p≤BL)(h0:er≠0):Sm (KQ e (p:Int) typ l er fi at_ d) fun r=>r.2.2.2.2.1≠0∧∃ q:Nat,r.2.2.1=(q:Int)∧q≤max p l.length:=by
 have hB:=lB hl
 have hlen:=hl.len
 refine Sm.loop (fun x:Int=>∃ q:Nat,x=(q:Int)∧q≤max p l.length) (fun x=>l.length-x.toNat) ?_ ⟨p,rfl,by omega⟩
 rintro x ⟨q,rfl,h1⟩
 simp only[Xx,V8,Option.bind_some,eqS,decide_eq_true_eq]
 by_cases w1:wd l q=[42]
 ·have a1:=Jst w1 (by decide)
  rw[if_pos w1,wP (by unfold BL; omega)]
  exact Sm.some ⟨⟨q+1,rfl,by omega⟩,by simp only[Int.toNat_natCast]; omega⟩
 ·rw[if_neg w1]
  refine Sm.inrO ?_
  have key:∀ e1 f1 a1:Int,e1≠0→VI (q:Int) l er fi at_ d=some (e1,f1,a1)→Sm ((VI (q:Int) l er fi at_ d).bind fun r2=>(JT l r2.1 r2.2.1 r2.2.2 d).bind fun r3=>if(!r3)=true then some ((q:Int),([]:List Node),(q:Int),e,r2.1,r2.2.1,r2.2.2,d) else none) fun r=>r.2.2.2.2.1≠0∧∃ q:Nat,r.2.2.1=(q:Int)∧q≤max p l.length:=fun e1 f1 a1 b1 b2=>by
   rw[b2]
   simp only[Option.bind_some,Xs,eqI,b1,decide_false,Bool.not_false,if_true]
   exact Sm.some ⟨b1,q,rfl,h1⟩
  rcases Jky (l:=l) (p:=q) (er:=er) (fi:=fi) (at_:=at_) (d:=d) hB with⟨_,_,b3⟩|⟨e1,f1,a1,b1,b2⟩
  ·rw[b3]
   simp only[Option.bind_some,Xs,eqI,h0,decide_false,Bool.not_false,if_true]
   exact Sm.some ⟨h0,q,rfl,h1⟩
  ·rw[b2]
   simp only[Option.bind_some,Xs,eqI,b1,decide_false,Bool.not_false,if_true]
   exact Sm.some ⟨b1,q,rfl,h1⟩
abbrev R7:=List Node×Int×EB×Int×Int×Int×Int
def PR(l:TL)(D p:Nat)(r:R7):Prop :=
 (r.2.2.2.1=0∧r.2.2.2.2.2.2=(D:Int)∧EvOk r.2.2.1∧∃ q:Nat,r.2.1=(q:Int)∧WNs l 2 p q r.1∧r.2.2.1.length≤q∧1≤r.1.length)∨FE l D 3 r.2.1 r.2.2.2.1
abbrev S10:=EB×Int×Int×Int×Int×Int×List Node×Int×Int×List Node
def RI(l:TL)(D p:Nat)(s:S10):Prop :=
 (s.2.2.1=0∧s.2.2.2.2.2.1=(D:Int)∧EvOk s.1∧s.2.2.2.2.2.2.2.1=4∧∃ q1 q:Nat,s.2.1=(q:Int)∧WNs l 0 p q1 s.2.2.2.2.2.2.1∧WN l q1 q ⟨4,s.2.2.2.2.2.2.2.2.1,s.2.2.2.2.2.2.2.2.2⟩∧s.1.length≤q)∨FE l D 2 s.2.1 s.2.2.1
theorem JlM{D p:Nat}(hD:D≤30){e:EB}{i:Nat}{er fi at_ dd:Int}{kids:List Node}(h:(er=0∧dd=(D:Int)∧EvOk e∧e.length≤i∧WNs l 0 p i kids∧1≤kids.length)∨(er≠0∧i≤l.length+10 * (40-D)+2)):Sm (ZL l (e,(i:Int),er,fi,at_,dd,kids)) (PR l D p):=by
 have hB:=lB hl
 have hlen:=hl.len
 simp only[ZL]
 rcases h with⟨rfl,rfl,h1,h2,h3,h4⟩|⟨h0,hi⟩
 ·have hi:=h3.2.1
  rcases Jcw (l:=l) (p:=i) (er:=0) (fi:=fi) (at_:=at_) (d:=(D:Int)) (s:=[59]) hB (by unfold BL; omega) with⟨c1,c2⟩|⟨c1,e1,f1,a3,c2,c3⟩
  ·obtain⟨a1,a2⟩:=Xa hl c1 (by decide)
   rw[c2]
   exact Sm.some (.inl ⟨rfl,rfl,h1,i+1,rfl,h3.skip a1 a2,by simp only; omega,h4⟩)
  ·rw[c3]
   exact Sm.some (.inr ⟨c2,i+1,rfl,by omega⟩)
 ·obtain⟨e1,f1,a1,c2,c3⟩:=Jhk (l:=l) (p:=i) (er:=er) (fi:=fi) (at_:=at_) (d:=dd) (s:=[59]) hB (by have:=lB2 hl hi (by omega); omega) h0
  rw[c3]
  exact Sm.some (.inr ⟨c2,i+1,rfl,by omega⟩)
theorem JlZ{D p:Nat}(hD:D≤30){typ:Bool}{e:EB}{q0:Nat}{dk:List Node}{nt:Int}{i:Nat}{er fi at_ dd:Int}{nk:List Node}(hdk:dk.length≤10000)
  (h:(er=0∧dd=(D:Int)∧EvOk e∧e.length≤i∧q0≤i∧∃ q1,WNs l 0 p q1 dk∧WN l q1 i ⟨4,nt,nk⟩)∨(er≠0∧i≤l.length+10 * (40-D))) :
  Sm (Zz typ l e dk 4 nt ((i:Int),er,fi,at_,dd,nk)) (oS (fun s'=>RI l D p s'∧XM l s'.2.2.1 s'.2.1<XM l 0 (q0:Int)) (PR l D p)):=by
 have hB:=lB hl
 have hlen:=hl.len
 simp only[Zz,List.length_cons,List.length_nil]
 rw[if_pos (by omega),V8,Option.bind_some]
 simp only[eqS,Bool.not_eq_true',decide_eq_false_iff_not]
 rcases h with⟨rfl,rfl,h1,h2,hq0,q1,h3,h4⟩|⟨h0,hi⟩
 ·have hi:=h4.2.1
  by_cases w:wd l i=[44]
  ·obtain⟨a1,a2⟩:=Xa hl w (by decide)
   rw[if_neg (by simpa using w),wP (by unfold BL; omega)]
   refine(Jd8 hl hD h1 (p:=i+1) (by omega) (by omega)).bind ?_
   rintro ⟨t4,ks4,i4,e4,er4,fi4,at4,d4⟩ hr
   refine Sm.some ?_
   rcases hr with⟨u1,u2,u3,q4,u4,u5,u6⟩|⟨u1,q4,u3,u4⟩
   ·simp only at u1 u2 u3 u4 u5 u6
    subst u1; subst u2; subst u4
    exact⟨.inl ⟨rfl,rfl,u3,rfl,i+1,q4,rfl,((h3.add h4).skip a1 a2).weak (by omega),u5,u6⟩,Jf5 (by have:=u5.1; omega) u5.2.1⟩
   ·simp only at u1 u3
    exact⟨.inr ⟨u1,q4,u3,by omega⟩,JcX u1⟩
  ·rw[if_pos w]
   exact Sm.inrO (JlM hl hD (.inl ⟨rfl,rfl,h1,h2,h3.add h4,by simp⟩))
 ·by_cases w:wd l i=[44]
  ·have a1:=Jst w (by decide)
   rw[if_neg (by simpa using w),wP (by unfold BL; omega)]
   refine(Jqb hl (p:=i+1) (by unfold BL; omega) h0).bind ?_
   rintro ⟨t4,ks4,i4,e4,er4,fi4,at4,d4⟩ ⟨u1,q4,u3,u4⟩
   simp only at u1 u3
   exact Sm.some ⟨.inr ⟨u1,q4,u3,by omega⟩,JcX u1⟩
  ·rw[if_pos w]
   exact Sm.inrO (JlM hl hD (.inr ⟨h0,by omega⟩))
theorem JqQ{D p:Nat}(hD:D≤30){typ:Bool}:∀ s:S10,RI l D p s→Sm (Jt (JaU typ l) s) (PR l D p):=by
 have hB:=lB hl
 have hlen:=hl.len
 intro s hs
 refine Sm.loop (RI l D p) (fun s=>XM l s.2.2.1 s.2.1) ?_ hs
 clear hs
 rintro ⟨e,i,er,fi,at_,dd,dk,nk,nt,nks⟩ hs
 simp only[JaU,Xs,Option.bind_some,eqI,decide_eq_true_eq]
 rcases hs with⟨z1,z2,z3,z4,q1,q,z5,z6,z7,z8⟩|⟨h0,q,z3,z4⟩
 ·simp only at z1 z2 z3 z4 z5 z6 z7 z8
  subst z1; subst z2; subst z4; subst z5
  have hq:=z7.2.1
  have hdk:dk.length≤10000:=by have:=z6.2.2.2.2; have:=z6.2.1; omega
  have hnk:nks.length≤10000:=by
   have:=z7.2.2.2.2
   rw[nsz]at this
   have:=Jdw nks
   omega
  rw[if_pos rfl]
  have plain:=JlZ hl (p:=p) hD (typ:=typ) (e:=e) (q0:=q) (dk:=dk) (nt:=nt) (i:=q) (er:=0) (fi:=fi) (at_:=at_) (dd:=(D:Int)) (nk:=nks) hdk (.inl ⟨rfl,rfl,z3,z8,Nat.le_refl _,q1,z6,z7⟩)
  cases typ with
  | true =>
   simp only[Bool.not_true,Bool.false_eq_true,if_false,ZE]
   exact plain
  | false =>
   simp only[Bool.not_false,if_true,V8,Option.bind_some,ZE,eqS,decide_eq_true_eq]
   by_cases w:wd l q=[61]
   ·obtain⟨a1,a2⟩:=Xa hl w (by decide)
    rw[if_pos w,wP (by unfold BL; omega)]
    refine(Jhq hl hD e (q+1) 1 fi at_ (by omega) (by decide)).bind ?_
    rintro ⟨k6,t6,ks6,i6,er6,fi6,at6,d6⟩ h6
    simp only[List.length_cons,List.length_nil]
    rw[if_pos (by omega)]
    rcases h6 with⟨u1,u2,q6,u3,u4⟩|⟨u1,q6,u3,u4⟩
    ·simp only at u1 u2 u3 u4
     subst u1; subst u2; subst u3
     have hq6:=u4.2.1
     exact JlZ hl hD hdk (.inl ⟨rfl,rfl,z3,by have:=u4.1; omega,by have:=u4.1; omega,q1,z6,z7.kid a1 a2 u4⟩)
    ·simp only at u1 u3
     subst u3
     exact JlZ hl hD hdk (.inr ⟨u1,by omega⟩)
   ·rw[if_neg w]; exact plain
 ·simp only at h0 z3
  subst z3
  rw[if_neg h0]
  exact Sm.inrO (JlM hl hD (.inr ⟨h0,z4⟩))
abbrev R9:=Int×Int×List Node×Int×EB×Int×Int×Int×Int
def PS(l:TL)(D p c:Nat)(r:R9):Prop :=
 (r.2.2.2.2.2.1=0∧r.2.2.2.2.2.2.2.2=(D:Int)∧EvOk r.2.2.2.2.1∧∃ q:Nat,r.2.2.2.1=(q:Int)∧WN l p q ⟨r.1,r.2.1,r.2.2.1⟩∧r.2.2.2.2.1.length≤q)∨FE l D c r.2.2.2.1 r.2.2.2.2.2.1
theorem JrX{D:Nat}(hD:D≤30){e:EB}(he:EvOk e){p:Nat}{fi at_:Int}(hp:p≤l.length)(hel:e.length≤p):Sm (ZV e (p:Int) l 0 fi at_ (D:Int)) (PS l D p 3):=by
 have hB:=lB hl
 have hlen:=hl.len
 have go:∀ (x:Nat) (b:Bool),x≤l.length→p≤x→(∀ q y,WN l x q y→WN l p q y)→Sm (ZH e l 0 fi at_ (D:Int) ((x:Int),b)) (PS l D p 3):=by
  intro x b hx hpx hlead
  simp only[ZH]
  rcases JlL hl he (p:=x) (er:=0) (fi:=fi) (at_:=at_) (d:=(D:Int)) (by omega) with⟨b1,b2,b3⟩|⟨e1,f1,a1,b1,b2⟩
  ·rw[b3]
   simp only[Option.bind_some,Xs,eqI,decide_true,Bool.not_true,Bool.false_eq_true,if_false]
   refine(Jd8 hl hD he (p:=x+1) (by omega) (by omega)).bind ?_
   rintro ⟨t4,ks4,i4,e4,er4,fi4,at4,d4⟩ hr
   have hri:RI l D x (e4,i4,er4,fi4,at4,d4,[⟨16,(x:Int),[]⟩],4,t4,ks4):=by
    rcases hr with⟨u1,u2,u3,q4,u4,u5,u6⟩|⟨u1,q4,u3,u4⟩
    ·simp only at u1 u2 u3 u4 u5 u6
     subst u1; subst u2; subst u4
     exact .inl ⟨rfl,rfl,u3,rfl,x+1,q4,rfl,b2.one,u5,u6⟩
    ·exact .inr ⟨u1,q4,u3,by omega⟩
   refine(JqQ hl hD (typ:=b) _ hri).bind ?_
   rintro ⟨ks5,i5,e5,er5,fi5,at5,d5⟩ h5
   refine Sm.some ?_
   rcases h5 with⟨u1,u2,u3,q5,u4,u5,u6,u7⟩|⟨u1,q5,u3,u4⟩
   ·simp only at u1 u2 u3 u4 u5 u6 u7
    subst u1; subst u2; subst u4
    exact .inl ⟨rfl,rfl,u3,q5,rfl,hlead _ _ (WNs.mk (k:=2) (t:=-1) u5 (by omega) rfl),u6⟩
   ·exact .inr ⟨u1,q5,u3,u4⟩
  ·rw[b2]
   simp only[Option.bind_some,Xs,eqI,b1,decide_false,Bool.not_false,if_true]
   exact Sm.some (.inr ⟨b1,x+1,rfl,by omega⟩)
 unfold ZV
 rw[V8,Option.bind_some]
 simp only[eqS,decide_eq_true_eq]
 by_cases w:wd l p=[116,121,112,101,100,101,102]
 ·obtain⟨a1,a2⟩:=Xa hl w (by decide)
  rw[if_pos w,wP (by unfold BL; omega)]
  exact go (p+1) true (by omega) (by omega) (fun q y h=>h.lead a2)
 ·rw[if_neg w]
  exact go p false hp (Nat.le_refl _) (fun q y h=>h)
end
end Go.Proofs.Ytaofbminodhcnaa
