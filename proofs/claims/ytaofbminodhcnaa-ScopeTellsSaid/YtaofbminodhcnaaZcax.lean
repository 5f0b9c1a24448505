/- preref9's expressions,plain. -/
import Derived.Test.YtaofbminodhcnaaZcau
set_option linter.unusedVariables false
set_option linter.unusedSimpArgs false
namespace Go.Proofs.Ytaofbminodhcnaa
open Go.RowKit
def LV:List (List (List UInt8)):=[[[44]],[[61],[43,61],[45,61],[42,61],[47,61],[37,61],[38,61],[124,61],[94,61],[60,60,61],[62,62,61]],[[124,124]],[[38,38]],[[124]],[[94]],[[38]],[[61,61],[33,61]],[[60],[62],[60,61],[62,61]],[[60,60],[62,62]],[[43],[45]],[[42],[47],[37]]]
theorem Jyc:∀ i,i<LV.length→(LV.getD i default).length≤BL∧(LV.getD i default).all okW=true:=by
 intro i hi
 have h:i<12:=hi
 rcases i with _|_|_|_|_|_|_|_|_|_|_|_|i
 all_goals first | omega | exact⟨by decide,by decide⟩
theorem Jlx(s:List UInt8):∀ (n i:Nat),LV.length-i=n→i≤LV.length→∃ v:Int,Jt (Z9 s LV) ((LV.length:Int),(i:Int))=some v∧-1≤v∧v≤11∧(0≤v→okW s=true)
 | 0,i,hn,hi=>by
  refine⟨-1,?_,by omega,by omega,fun h=>by omega⟩
  rw[Ky]
  simp only[Z9,ltI,decide_eq_true_eq]
  rw[if_neg (by omega)]
  rfl
 | n+1,i,hn,hi=>by
  have hL:LV.length=12:=rfl
  have hlt:i<LV.length:=by omega
  obtain⟨v,h1,h2⟩:=Jlx s n (i+1) (by omega) (by omega)
  obtain⟨k1,k2⟩:=Jyc i hlt
  rw[Ky]
  simp only[Z9,Jbr,ltI,decide_eq_true_eq,Int.toNat_natCast]
  rw[if_pos (by omega),if_pos (by omega),Jk8 _ _ k1,wP (by rw[hL]at hi; unfold BL; omega)]
  simp only[Option.bind_some]
  by_cases e:(!eqS s [])=true
  ·rw[if_pos e]
   by_cases hm:(LV.getD i default).any (fun x=>eqS x s)=true
   ·refine⟨(i:Int),by rw[if_pos hm]; rfl,by omega,by omega,fun _=>?_⟩
    obtain⟨x,hx,hxs⟩:=List.any_eq_true.1 hm
    have:=List.all_eq_true.1 k2 x hx
    rw[of_decide_eq_true (p:=x=s) hxs]at this
    exact this
   ·rw[if_neg hm,V9]; exact⟨v,h1,h2⟩
  ·rw[if_neg e,if_neg (by decide),V9]; exact⟨v,h1,h2⟩
theorem Jvb(s:List UInt8):∃ v:Int,JcT s=some v∧-1≤v∧v≤11∧(0≤v→okW s=true):=by
 obtain⟨v,h1,h2⟩:=Jlx s _ 0 rfl (Nat.zero_le _)
 exact⟨v,h1,h2⟩
def FE(l:TL)(D c:Nat)(i er:Int):Prop:=er≠0∧∃ q:Nat,i=(q:Int)∧q≤l.length+10 * (40-D)+c
theorem FE.mono{l:TL}{D D' c c':Nat}{i er:Int}(h:FE l D c i er)(hd:10 * (40-D)+c≤10 * (40-D')+c'):FE l D' c' i er:=by
 obtain⟨h1,q,h2,h3⟩:=h
 exact⟨h1,q,h2,by omega⟩
abbrev R8:=Int×Int×List Node×Int×Int×Int×Int×Int
def PE(l:TL)(D p c:Nat)(r:R8):Prop :=
 (r.2.2.2.2.1=0∧r.2.2.2.2.2.2.2=(D:Int)∧∃ q:Nat,r.2.2.2.1=(q:Int)∧WN l p q ⟨r.1,r.2.1,r.2.2.1⟩)∨FE l D c r.2.2.2.1 r.2.2.2.2.1
abbrev QE:=EB→Int→Int→(List Token)→Int→Int→Int→Int→Option R8
abbrev QU:=EB→Int→(List Token)→Int→Int→Int→Int→Option R8
def EOk(l:TL)(q:QE)(D:Nat):Prop:=∀ (e:EB) (p:Nat) (least fi at_:Int),p≤l.length→0≤least→Sm (q e (p:Int) least l 0 fi at_ (D:Int)) (PE l D p 0)
def UOk(l:TL)(q:QU)(D c:Nat):Prop:=∀ (e:EB) (p:Nat) (fi at_:Int),p≤l.length→Sm (q e (p:Int) l 0 fi at_ (D:Int)) (PE l D p c)
section
variable {l:TL} (hl:TokOk l)
include hl
theorem lB:l.length≤BL:=Nat.le_trans hl.len (by decide)
theorem lB2{q D c:Nat}(h:q≤l.length+10 * (40-D)+c)(hc:c≤100):q+10≤BL:=by
 have:=hl.len
 unfold BL; omega
theorem Jx5{q1:QE}{q2 q3:QU}{D:Nat}(hD:D≤30)(h1:D<30→EOk l q1 (D+1))(h2:D<30→UOk l q2 (D+1) 0):EOk l (XS q1 q2 q3) D:=by
 intro e p least fi at_ hp hle
 have hB:=lB hl
 have hlen:=hl.len
 unfold XS
 rcases JhQ (l:=l) (p:=p) (fi:=fi) (at_:=at_) hB hD with⟨hd,h⟩|⟨e1,f1,a1,d1,h0,h⟩
 ·rw[h]
  simp only[Option.bind_some,Bool.not_true,Bool.false_eq_true,if_false]
  refine(h2 hd e p fi at_ hp).bind ?_
  rintro ⟨k,t,ks,i,er,fi2,at2,d2⟩ hr
  refine Sm.loop (fun s:Int×Int×Int×Int×Int×Int×Int×List Node=>(s.2.1=0∧s.2.2.2.2.1=((D+1:Nat):Int)∧∃ q:Nat,s.1=(q:Int)∧WN l p q ⟨s.2.2.2.2.2.1,s.2.2.2.2.2.2.1,s.2.2.2.2.2.2.2⟩)∨FE l (D+1) 0 s.1 s.2.1) (fun s=>XM l s.2.1 s.1) ?_ hr
  rintro ⟨i,er,fi,at_,dd,k,t,ks⟩ hs
  simp only at hs
  simp only[Jci,Xs,Option.bind_some,eqI,decide_eq_true_eq]
  rcases hs with⟨rfl,rfl,q,rfl,hw⟩|⟨h0,q,rfl,hq⟩
  ·have hqn:=hw.2.1
   obtain⟨v,v1,v2,v3,v4⟩:=Jvb (wd l q)
   rw[if_pos rfl,V8,Option.bind_some,v1,Option.bind_some]
   simp only[ltI,decide_eq_true_eq]
   by_cases hv:v<least
   ·rw[if_pos hv]
    refine Sm.inrO (Sm.some (.inl ⟨rfl,?_,q,rfl,hw⟩))
    simp only[JaP]
    rw[wrI _ (by omega)]
    omega
   ·rw[if_neg hv]
    obtain⟨hql,hqn2⟩:=Xa hl (p:=q) rfl (v4 (by omega))
    have step:∀ x:Int,0≤x→Sm (Zt q1 e l (q:Int) 0 fi at_ ((D+1:Nat):Int) k t ks x) (oS (fun s'=>((s'.2.1=0∧s'.2.2.2.2.1=((D+1:Nat):Int)∧∃ q:Nat,s'.1=(q:Int)∧WN l p q ⟨s'.2.2.2.2.2.1,s'.2.2.2.2.2.2.1,s'.2.2.2.2.2.2.2⟩)∨FE l (D+1) 0 s'.1 s'.2.1)∧XM l s'.2.1 s'.1<XM l 0 (q:Int)) (PE l D p 0)):=fun x hx=>by
     simp only[Zt]
     rw[wP (by unfold BL; omega)]
     refine(h1 hd e (q+1) x fi at_ (by omega) hx).bind ?_
     rintro ⟨k6,t6,ks6,i6,er6,fi6,at6,d6⟩ h6
     refine Sm.some ?_
     rcases h6 with⟨z1,z2,q6,z3,z4⟩|⟨z1,q6,z3,z4⟩
     ·simp only at z1 z2 z3 z4
      subst z1; subst z2; subst z3
      refine⟨.inl ⟨rfl,rfl,q6,rfl,?_⟩,?_⟩
      ·exact WNs.mk ((hw.one.skip hql hqn2).add z4) (by simp) rfl
      ·exact Jf5 (by have:=z4.1; omega) z4.2.1
     ·simp only at z1 z3
      exact⟨.inr ⟨z1,q6,z3,z4⟩,JcX z1⟩
    by_cases h1':v=1
    ·rw[if_pos h1']; exact step 1 (by decide)
    ·rw[if_neg h1',wrI _ (by omega)]; exact step (v+1) (by omega)
  ·rw[if_neg h0]
   refine Sm.inrO (Sm.some (.inr ⟨h0,q,rfl,by omega⟩))
 ·rw[h]
  exact Sm.some (.inr ⟨h0,p,rfl,by omega⟩)
theorem JwX{q1:QE}{q2 q3:QU}{D:Nat}(hD:D≤30)(h2:D<30→UOk l q2 (D+1) 0)(h3:D<30→UOk l q3 (D+1) 5):UOk l (JaL q1 q2 q3) D 0:=by
 intro e p fi at_ hp
 have hB:=lB hl
 have hlen:=hl.len
 unfold JaL
 rcases JhQ (l:=l) (p:=p) (fi:=fi) (at_:=at_) hB hD with⟨hd,h⟩|⟨e1,f1,a1,d1,h0,h⟩
 ·rw[h]
  simp only[Option.bind_some,Bool.not_true,Bool.false_eq_true,if_false,V8]
  rw[Jk8 _ _ (by decide)]
  simp only[Option.bind_some,Jam]
  by_cases hm:([[45],[43],[33],[126],[42],[38],[43,43],[45,45]]:List (List UInt8)).any (fun x=>eqS x (wd l p))=true
  ·rw[if_pos hm]
   obtain⟨x,hx,hxs⟩:=List.any_eq_true.1 hm
   have hok:okW (wd l p)=true:=by
    have h9:([[45],[43],[33],[126],[42],[38],[43,43],[45,45]]:List (List UInt8)).all okW=true:=by decide
    have:=List.all_eq_true.1 h9 x hx
    rwa [of_decide_eq_true (p:=x=wd l p) hxs]at this
   obtain⟨hpl,hpn⟩:=Xa hl (p:=p) rfl hok
   rw[wP (by unfold BL; omega)]
   refine(h2 hd e (p+1) fi at_ (by omega)).bind ?_
   rintro ⟨k,t,ks,i,er,fi2,at2,d2⟩ hr
   refine Sm.some ?_
   rcases hr with⟨z1,z2,q,z3,z4⟩|⟨z1,q,z3,z4⟩
   ·simp only at z1 z2 z3 z4
    subst z1; subst z2; subst z3
    refine .inl ⟨rfl,?_,q,rfl,WNs.mk (z4.one.lead hpn) (by simp) rfl⟩
    show IntKind.i64.wrap (((D+1:Nat):Int)-1)=(D:Int)
    rw[wrI _ (by omega)]; omega
   ·exact .inr ⟨z1,q,z3,by omega⟩
  ·rw[if_neg hm]
   refine(h3 hd e p fi at_ hp).bind ?_
   rintro ⟨k,t,ks,i,er,fi2,at2,d2⟩ hr
   refine Sm.some ?_
   rcases hr with⟨z1,z2,q,z3,z4⟩|⟨z1,q,z3,z4⟩
   ·simp only at z1 z2 z3 z4
    subst z1; subst z2; subst z3
    refine .inl ⟨rfl,?_,q,rfl,z4⟩
    show IntKind.i64.wrap (((D+1:Nat):Int)-1)=(D:Int)
    rw[wrI _ (by omega)]; omega
   ·exact .inr ⟨z1,q,z3,by omega⟩
 ·rw[h]
  exact Sm.some (.inr ⟨h0,p,rfl,by omega⟩)
def PI(l:TL)(D p:Nat)(s:Int×Int×Int×Int×Int×Int×Int×List Node):Prop :=
 (s.2.1=0∧s.2.2.2.2.1=(D:Int)∧∃ q:Nat,s.1=(q:Int)∧WN l p q ⟨s.2.2.2.2.2.1,s.2.2.2.2.2.2.1,s.2.2.2.2.2.2.2⟩)∨FE l D 4 s.1 s.2.1
def PM(l:TL)(s:Int×Int×Int×Int×Int×Int×Int×List Node):Nat:=XM l s.2.1 s.1
def AI(l:TL)(D p q0:Nat)(s:Int×Int×Int×Int×Int×List Node):Prop :=
 (s.2.1=0∧s.2.2.2.2.1=(D:Int)∧∃ q:Nat,s.1=(q:Int)∧q0<q∧WNs l 2 p q s.2.2.2.2.2∧1≤s.2.2.2.2.2.length)∨FE l D 2 s.1 s.2.1
theorem JtF{q1:QE}{D p:Nat}(hD:D≤30)(h1:EOk l q1 D)(e:EB):∀ s,PI l D p s→Sm (JaV q1 e l s) (oS (fun s'=>PI l D p s'∧PM l s'<PM l s) (PE l D p 5)):=by
 have hB:=lB hl
 have hlen:=hl.len
 rintro ⟨i,er,fi,at_,dd,k,t,ks⟩ hs
 simp only[JaV,Xs,Option.bind_some,eqI,decide_eq_true_eq]
 rcases hs with⟨z1,z2,q,z3,hw⟩|⟨h0,q,z3,hq⟩
 ·simp only at z1 z2 z3 hw
  subst z1; subst z2; subst z3
  have hqn:=hw.2.1
  rw[if_pos rfl,V8,Option.bind_some]
  simp only[eqS,decide_eq_true_eq]
  by_cases w1:wd l q=[40]
  ·obtain⟨hql,hqn2⟩:=Xa hl w1 (by decide)
   rw[if_pos w1,wP (by unfold BL; omega)]
   refine Sm.loop (AI l D p q) (fun s=>XM l s.2.1 s.1) ?_ (.inl ⟨rfl,rfl,q+1,rfl,by omega,hw.one.skip hql hqn2,by simp⟩)
   rintro ⟨i,er,fi,at_,dd,ks⟩ hs
   simp only[Jcl,Xs,Option.bind_some,eqI,decide_eq_true_eq]
   rcases hs with⟨z1,z2,q2,z3,z4,z5,z6⟩|⟨h0,q2,z3,z4⟩
   ·simp only at z1 z2 z3 z5 z6
    subst z1; subst z2; subst z3
    have hq2:=z5.2.1
    have hks:ks.length≤6000:=by have:=z5.2.2.2.2; omega
    rw[if_pos rfl,V8,Option.bind_some]
    simp only[Zx,eqS,Bool.not_eq_true',decide_eq_false_iff_not,ltI,decide_eq_true_eq]
    by_cases w2:wd l q2=[41]
    ·obtain⟨a1,a2⟩:=Xa hl w2 (by decide)
     rw[if_neg (by simpa using w2),wP (by unfold BL; omega)]
     refine Sm.inrO (Sm.some ⟨.inl ⟨rfl,rfl,q2+1,rfl,WNs.mk (z5.skip a1 a2) (by omega) rfl⟩,?_⟩)
     exact Jf5 (by omega) (by omega)
    ·rw[if_pos w2]
     have more:∀ (i er fi at_:Int),(er=0∧∃ q3:Nat,i=(q3:Int)∧q2≤q3∧WNs l 2 p q3 ks)∨FE l D 2 i er →
       Sm (XH q1 e l (D:Int) ks (i,er,fi,at_)) (oS (fun s'=>AI l D p q s'∧XM l s'.2.1 s'.1<XM l 0 (q2:Int)) (oS (fun s'=>PI l D p s'∧XM l s'.2.1 s'.1<XM l 0 (q:Int)) (PE l D p 5))):=by
      rintro i er fi at_ (⟨rfl,q3,rfl,y2,y3⟩|⟨h0,q3,y1,y2⟩)
      ·simp only[XH,Xs,Option.bind_some,eqI,decide_true,if_true]
       have hq3:=y3.2.1
       refine(h1 e q3 1 fi at_ hq3 (by decide)).bind ?_
       rintro ⟨k6,t6,ks6,i6,er6,fi6,at6,d6⟩ h6
       simp only[List.length_cons,List.length_nil]
       rw[if_pos (by omega)]
       refine Sm.some ?_
       rcases h6 with⟨u1,u2,q6,u3,u4⟩|⟨u1,q6,u3,u4⟩
       ·simp only at u1 u2 u3 u4
        subst u1; subst u2; subst u3
        refine⟨.inl ⟨rfl,rfl,q6,rfl,by have:=u4.1; omega,y3.add u4,by simp⟩,?_⟩
        exact Jf5 (by have:=u4.1; omega) u4.2.1
       ·simp only at u1 u3
        exact⟨.inr ⟨u1,q6,u3,by omega⟩,JcX u1⟩
      ·simp only[XH,Xs,Option.bind_some,eqI,h0,decide_false,Bool.false_eq_true,if_false]
       exact Sm.some ⟨.inr ⟨h0,q3,y1,y2⟩,JcX h0⟩
     by_cases h2:(1:Int)<(ks.length:Int)
     ·rw[if_pos h2]
      rcases Jcw (l:=l) (p:=q2) (er:=0) (fi:=fi) (at_:=at_) (d:=(D:Int)) (s:=[44]) hB (by omega) with⟨c1,c2⟩|⟨c1,e1,f1,a1,c2,c3⟩
      ·obtain⟨a1,a2⟩:=Xa hl c1 (by decide)
       rw[c2,Option.bind_some]
       exact more _ _ _ _ (.inl ⟨rfl,q2+1,rfl,by omega,(z5.skip a1 a2).weak (by omega)⟩)
      ·rw[c3,Option.bind_some]
       exact more _ _ _ _ (.inr ⟨c2,q2+1,rfl,by omega⟩)
     ·rw[if_neg h2]
      exact more _ _ _ _ (.inl ⟨rfl,q2,rfl,Nat.le_refl _,z5⟩)
   ·simp only at h0 z3
    subst z3
    rw[if_neg h0]
    simp only[Zx,Bool.false_eq_true,if_false]
    rw[wP (by have:=lB2 hl z4 (by omega); omega)]
    exact Sm.inrO (Sm.some ⟨.inr ⟨h0,q2+1,rfl,by omega⟩,JcX h0⟩)
  ·rw[if_neg w1]
   by_cases w2:wd l q=[91]
   ·obtain⟨hql,hqn2⟩:=Xa hl w2 (by decide)
    rw[if_pos w2,wP (by unfold BL; omega)]
    refine(h1 e (q+1) 0 fi at_ (by omega) (by decide)).bind ?_
    rintro ⟨k6,t6,ks6,i6,er6,fi6,at6,d6⟩ h6
    rcases h6 with⟨u1,u2,q6,u3,u4⟩|⟨u1,q6,u3,u4⟩
    ·simp only at u1 u2 u3 u4
     subst u1; subst u2; subst u3
     have hq6:=u4.2.1
     rcases Jcw (l:=l) (p:=q6) (er:=0) (fi:=fi6) (at_:=at6) (d:=(D:Int)) (s:=[93]) hB (by omega) with⟨c1,c2⟩|⟨c1,e1,f1,a1,c2,c3⟩
     ·obtain⟨a1,a2⟩:=Xa hl c1 (by decide)
      simp only[c2,Option.bind_some]
      refine Sm.some ⟨.inl ⟨rfl,rfl,q6+1,rfl,WNs.mk (((hw.one.skip hql hqn2).add u4).skip a1 a2) (by simp) rfl⟩,?_⟩
      exact Jf5 (by have:=u4.1; omega) (by omega)
     ·simp only[c3,Option.bind_some]
      exact Sm.some ⟨.inr ⟨c2,q6+1,rfl,by omega⟩,JcX c2⟩
    ·simp only at u1 u3
     subst u3
     obtain⟨e1,f1,a1,c2,c3⟩:=Jhk (l:=l) (p:=q6) (er:=er6) (fi:=fi6) (at_:=at6) (d:=d6) (s:=[93]) hB (by have:=lB2 hl u4 (by omega); omega) u1
     simp only[c3,Option.bind_some]
     exact Sm.some ⟨.inr ⟨c2,q6+1,rfl,by omega⟩,JcX c2⟩
   ·rw[if_neg w2]
    exact Sm.inrO (Sm.some (.inl ⟨rfl,rfl,q,rfl,hw⟩))
 ·simp only at h0 z3
  rw[if_neg h0]
  exact Sm.inrO (Sm.some (.inr ⟨h0,q,z3,by omega⟩))
theorem JxE{q1:QE}{q2 q3:QU}{D:Nat}(hD:D≤30)(h1:EOk l q1 D):UOk l (Jbp q1 q2 q3) D 5:=by
 intro e p fi at_ hp
 have hB:=lB hl
 have hlen:=hl.len
 have go:∀ s,PI l D p s→Sm (Zw q1 e l s) (PE l D p 5):=by
  rintro ⟨i,er,fi,at_,dd,k,t,ks⟩ hs
  exact Sm.loop (PI l D p) (PM l) (JtF hl hD h1 e) hs
 unfold Jbp
 simp only[leI,eqI,decide_eq_true_eq,Int.toNat_natCast]
 by_cases hn:l.length≤p
 ·obtain⟨e1,f1,a1,c1,c2⟩:=Jfi (l:=l) (p:=p) (er:=0) (fi:=fi) (at_:=at_) (d:=(D:Int)) (e:=9) (by decide) hB
  rw[if_pos (by omega),c2]
  exact Sm.some (.inr ⟨c1,p,rfl,by omega⟩)
 ·have hpl:p<l.length:=by omega
  rw[if_neg (by omega),V8,Option.bind_some]
  simp only[eqS,decide_eq_true_eq]
  by_cases w1:wd l p=[40]
  ·obtain⟨_,hpn⟩:=Xa hl w1 (by decide)
   rw[if_pos w1,wP (by unfold BL; omega)]
   refine(h1 e (p+1) 0 fi at_ (by omega) (by decide)).bind ?_
   rintro ⟨k6,t6,ks6,i6,er6,fi6,at6,d6⟩ h6
   rcases h6 with⟨u1,u2,q6,u3,u4⟩|⟨u1,q6,u3,u4⟩
   ·simp only at u1 u2 u3 u4
    subst u1; subst u2; subst u3
    have hq6:=u4.2.1
    rcases Jcw (l:=l) (p:=q6) (er:=0) (fi:=fi6) (at_:=at6) (d:=(D:Int)) (s:=[41]) hB (by omega) with⟨c1,c2⟩|⟨c1,e1,f1,a1,c2,c3⟩
    ·obtain⟨a1,a2⟩:=Xa hl c1 (by decide)
     simp only[c2,Option.bind_some]
     exact go _ (.inl ⟨rfl,rfl,q6+1,rfl,(u4.lead hpn).skip a1 a2⟩)
    ·simp only[c3,Option.bind_some]
     exact go _ (.inr ⟨c2,q6+1,rfl,by omega⟩)
   ·simp only at u1 u3
    subst u3
    obtain⟨e1,f1,a1,c2,c3⟩:=Jhk (l:=l) (p:=q6) (er:=er6) (fi:=fi6) (at_:=at6) (d:=d6) (s:=[41]) hB (by have:=lB2 hl u4 (by omega); omega) u1
    simp only[c3,Option.bind_some]
    exact go _ (.inr ⟨c2,q6+1,rfl,by omega⟩)
  ·rw[if_neg w1]
   have hlit:∀ kd:Int,(l.getD p default).Kind=kd→kd≠1→Sm (V4 q1 e (p:Int) l 0 fi at_ (D:Int) true) (PE l D p 5):=fun kd hk hne=>by
    simp only[V4,if_true]
    rw[wP (by unfold BL; omega)]
    have hno:Xo l p=false:=by
     have:¬ (l.getD p default).Kind=1:=by omega
     simp only[Xo,eqI,this,decide_false,Bool.false_and]
    exact go _ (.inl ⟨rfl,rfl,p+1,rfl,WN.lit hpl hno rfl⟩)
   rw[if_pos (by omega)]
   by_cases k2:(l.getD p default).Kind=2
   ·rw[if_pos k2]; exact hlit 2 k2 (by decide)
   ·rw[if_neg k2,if_pos (by omega)]
    by_cases k3:(l.getD p default).Kind=3
    ·rw[if_pos k3]; exact hlit 3 k3 (by decide)
    ·rw[if_neg k3,if_pos (by omega)]
     by_cases k4:(l.getD p default).Kind=4
     ·have:=hlit 4 k4 (by decide)
      rw[show decide ((l.getD p default).Kind=4)=true from decide_eq_true k4]
      exact this
     ·rw[show decide ((l.getD p default).Kind=4)=false from decide_eq_false k4]
      simp only[V4,Bool.false_eq_true,if_false]
      rw[wP (by unfold BL; omega)]
      rcases Jky (l:=l) (p:=p) (er:=0) (fi:=fi) (at_:=at_) (d:=(D:Int)) hB with⟨_,c1,c2⟩|⟨e1,f1,a1,c2,c3⟩
      ·rw[c2,Option.bind_some]
       exact go _ (.inl ⟨rfl,rfl,p+1,rfl,WN.use hpl c1⟩)
      ·rw[c3,Option.bind_some]
       exact go _ (.inr ⟨c2,p+1,rfl,by omega⟩)
theorem Jfb:∀ (m D:Nat),D≤30→(3 * (31-D)+1≤m→EOk l (Jv m).1 D)∧(3 * (31-D)+1≤m→UOk l (Jv m).2.1 D 0)∧(3 * (31-D)+2≤m→UOk l (Jv m).2.2 D 5)
 | 0,D,hD=>⟨fun h=>by omega,fun h=>by omega,fun h=>by omega⟩
 | m+1,D,hD=>by
  refine⟨fun h=>?_,fun h=>?_,fun h=>?_⟩
  ·exact Jx5 (q3:=(Jv m).2.2) hl hD (fun hd=>(Jfb m (D+1) (by omega)).1 (by omega)) (fun hd=>(Jfb m (D+1) (by omega)).2.1 (by omega))
  ·exact JwX (q1:=(Jv m).1) hl hD (fun hd=>(Jfb m (D+1) (by omega)).2.1 (by omega)) (fun hd=>(Jfb m (D+1) (by omega)).2.2 (by omega))
  ·exact JxE (q2:=(Jv m).2.1) (q3:=(Jv m).2.2) hl hD ((Jfb m D hD).1 (by omega))
theorem Jhq{D:Nat}(hD:D≤30):EOk l Vd D:=(Jfb hl bigF D hD).1 (Nat.le_trans (by omega:3 * (31-D)+1≤100) (by decide))
theorem JxG{e:EB}{p:Nat}{least fi at_ d er:Int}(h0:er≠0):Sm (Vd e (p:Int) least l er fi at_ d) fun r=>r.2.2.2.1=(p:Int)∧r.2.2.2.2.1≠0:=by
 show Sm (XS (Jv 18446744073709551615).1 (Jv 18446744073709551615).2.1 (Jv 18446744073709551615).2.2 e (p:Int) least l er fi at_ d) _
 unfold XS
 obtain⟨e1,f1,a1,d1,k0,h⟩:=Jw6 (l:=l) (p:=p) (er:=er) (fi:=fi) (at_:=at_) (d:=d) (lB hl) h0
 rw[h]
 exact Sm.some ⟨rfl,k0⟩
end
end Go.Proofs.Ytaofbminodhcnaa
