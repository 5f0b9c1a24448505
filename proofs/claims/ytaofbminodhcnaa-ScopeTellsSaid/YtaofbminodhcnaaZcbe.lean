/- preref9's statements and files,plain. -/
import Derived.Test.YtaofbminodhcnaaZcba
set_option linter.unusedVariables false
set_option linter.unusedSimpArgs false
namespace Go.Proofs.Ytaofbminodhcnaa
open Go.RowKit
abbrev R6:=List Node×Int×Int×Int×Int×Int
abbrev QB:=EB→Int→(List Token)→Int→Int→Int→Int→Option R6
abbrev QS:=EB→Int→(List Token)→Int→Int→Int→Int→Option R9
def PB(l:TL)(D p:Nat)(r:R6):Prop :=
 (r.2.2.1=0∧r.2.2.2.2.2=(D:Int)∧∃ q:Nat,r.2.1=(q:Int)∧WN l p q ⟨5,-1,r.1⟩)∨FE l D 2 r.2.1 r.2.2.1
def BOk(l:TL)(q:QB)(D:Nat):Prop:=∀ (e:EB) (p:Nat) (fi at_:Int),EvOk e→e.length≤p→p≤l.length→Sm (q e (p:Int) l 0 fi at_ (D:Int)) (PB l D p)
def SOk(l:TL)(q:QS)(D:Nat):Prop:=∀ (e:EB) (p:Nat) (fi at_:Int),EvOk e→e.length≤p→p≤l.length→Sm (q e (p:Int) l 0 fi at_ (D:Int)) (PS l D p 3)
theorem JhW{l:TL}{s p q:Nat}{ks:List Node}(h:WNs l s p q ks)(hl:l.length≤3000):ks.length≤10000:=by
 have:=h.2.2.2.2; have:=h.2.1; omega
theorem Jvs{D:Nat}(hD:D≤30):IntKind.i64.wrap (((D+1:Nat):Int)-1)=(D:Int):=by rw[wrI _ (by omega)]; omega
section
variable {l:TL} (hl:TokOk l)
include hl
def BI(l:TL)(D p:Nat)(s:EB×Int×Int×Int×Int×Int×List Node):Prop :=
 (s.2.2.1=0∧s.2.2.2.2.2.1=((D+1:Nat):Int)∧EvOk s.1∧∃ q:Nat,s.2.1=(q:Int)∧s.1.length≤q∧WNs l 2 p q s.2.2.2.2.2.2)∨FE l (D+1) 8 s.2.1 s.2.2.1
theorem Jwe{q1:QB}{q2:QS}{D:Nat}(hD:D≤30)(h2:D<30→SOk l q2 (D+1)):BOk l (JaN q1 q2) D:=by
 intro e p fi at_ he hel hp
 have hB:=lB hl
 have hlen:=hl.len
 unfold JaN
 rcases JhQ (l:=l) (p:=p) (fi:=fi) (at_:=at_) hB hD with⟨hd,h⟩|⟨e1,f1,a1,d1,h0,h⟩
 ·rw[h]
  simp only[Option.bind_some,Bool.not_true,Bool.false_eq_true,if_false]
  have bad:∀ (x:EB) (i:Nat) (er fi at_ dd:Int) (ks:List Node),er≠0→i≤l.length+10 * (40-(D+1))+8→Sm (Xn ((i:Int),er,fi,at_,dd,ks)) (PB l D p):=fun x i er fi at_ dd ks h0 hi=>by
   simp only[Xn]
   rw[wP (by have:=lB2 hl hi (by omega); omega)]
   exact Sm.some (.inr ⟨h0,i+1,rfl,by omega⟩)
  have go:∀ s,BI l D p s→Sm (Jt (Jaq q2 l) s) (PB l D p):=by
   intro s hs
   refine Sm.loop (BI l D p) (fun s=>XM l s.2.2.1 s.2.1) ?_ hs
   clear hs
   rintro ⟨x,i,er,fi,at_,dd,ks⟩ hs
   simp only[Jaq,Xs,Option.bind_some,eqI,decide_eq_true_eq]
   rcases hs with⟨z1,z2,z3,q,z5,z6,z7⟩|⟨h0,q,z3,z4⟩
   ·simp only at z1 z2 z3 z5 z6 z7
    subst z1; subst z2; subst z5
    have hq:=z7.2.1
    rw[if_pos rfl,V8,Option.bind_some]
    simp only[X6,eqS,Bool.not_eq_true',decide_eq_false_iff_not,leI,decide_eq_true_eq]
    by_cases w:wd l q=[125]
    ·obtain⟨a1,a2⟩:=Xa hl w (by decide)
     rw[if_neg (by simpa using w)]
     simp only[Xn]
     rw[wP (by unfold BL; omega),Jvs hD]
     exact Sm.inrO (Sm.some (.inl ⟨rfl,rfl,q+1,rfl,WNs.mk (z7.skip a1 a2) (by omega) rfl⟩))
    ·rw[if_pos w]
     by_cases hn:l.length≤q
     ·obtain⟨e1,f1,a1,c1,c2⟩:=Jfi (l:=l) (p:=q) (er:=0) (fi:=fi) (at_:=at_) (d:=((D+1:Nat):Int)) (e:=9) (by decide) hB
      rw[if_pos (by omega),c2,Option.bind_some]
      exact Sm.inrO (bad x _ _ _ _ _ _ c1 (by omega))
     ·rw[if_neg (by omega)]
      refine(h2 hd x q fi at_ z3 z6 hq).bind ?_
      rintro ⟨k6,t6,ks6,i6,e6,er6,fi6,at6,d6⟩ h6
      simp only[List.length_cons,List.length_nil]
      have hk:=JhW z7 hlen
      rw[if_pos (by omega)]
      refine Sm.some ?_
      rcases h6 with⟨u1,u2,u3,q6,u4,u5,u6⟩|⟨u1,q6,u3,u4⟩
      ·simp only at u1 u2 u3 u4 u5 u6
       subst u1; subst u2; subst u4
       exact⟨.inl ⟨rfl,rfl,u3,q6,rfl,u6,z7.add u5⟩,Jf5 (by have:=u5.1; omega) u5.2.1⟩
      ·simp only at u1 u3
       exact⟨.inr ⟨u1,q6,u3,by omega⟩,JcX u1⟩
   ·simp only at h0 z3
    subst z3
    rw[if_neg h0]
    simp only[X6,Bool.false_eq_true,if_false]
    exact Sm.inrO (bad x _ _ _ _ _ _ h0 z4)
  rcases Jcw (l:=l) (p:=p) (er:=0) (fi:=fi) (at_:=at_) (d:=((D+1:Nat):Int)) (s:=[123]) hB (by unfold BL; omega) with⟨c1,c2⟩|⟨c1,e1,f1,a3,c2,c3⟩
  ·obtain⟨a1,a2⟩:=Xa hl c1 (by decide)
   rw[c2,Option.bind_some]
   exact go _ (.inl ⟨rfl,rfl,he,p+1,rfl,by simp only; omega,(WNs.nil (by omega)).lead a2⟩)
  ·rw[c3,Option.bind_some]
   exact go _ (.inr ⟨c2,p+1,rfl,by omega⟩)
 ·rw[h]
  exact Sm.some (.inr ⟨h0,p,rfl,by omega⟩)
def WI(l:TL)(D p:Nat)(w:List UInt8)(s:Int×Int×Int×Int×Int×Int×Int×List Node):Prop :=
 ((s.2.1=0∧s.2.2.2.2.1=((D+1:Nat):Int)∧s.2.2.2.2.2.1=ifK w∧s.2.2.2.2.2.2.1=-1∧∃ q:Nat,s.1=(q:Int)∧p≤q∧WNs l 2 p q s.2.2.2.2.2.2.2)∨FE l (D+1) 8 s.1 s.2.1)
omit hl in
theorem Jx2(w:List UInt8):kOk (ifK w)=true:=by
 unfold ifK
 split
 ·rfl
 ·split <;> rfl
theorem JxY{q1:QB}{q2:QS}{D:Nat}(hD:D≤30)(h1:D<30→BOk l q1 (D+1))(h2:D<30→SOk l q2 (D+1)):SOk l (Jbk q1 q2) D:=by
 intro e p fi at_ he hel hp
 have hB:=lB hl
 have hlen:=hl.len
 unfold Jbk
 rcases JhQ (l:=l) (p:=p) (fi:=fi) (at_:=at_) hB hD with⟨hd,h⟩|⟨e1,f1,a1,d1,h0,h⟩
 ·rw[h]
  simp only[Option.bind_some,Bool.not_true,Bool.false_eq_true,if_false,V8]
  -- ways out
  have good:∀ (x:EB) (i:Nat) (fi at_:Int) (k t:Int) (ks:List Node),EvOk x→x.length≤i→WN l p i ⟨k,t,ks⟩→Sm (Kj (x,(i:Int),0,fi,at_,((D+1:Nat):Int),k,t,ks)) (PS l D p 3):=fun x i fi at_ k t ks hx hxl hw=>by
   simp only[Kj]
   rw[Jvs hD]
   exact Sm.some (.inl ⟨rfl,rfl,hx,i,rfl,hw,hxl⟩)
  have bad:∀ (x:EB) (i:Nat) (er fi at_ dd k t:Int) (ks:List Node),er≠0→i≤l.length+10 * (40-(D+1))+9→Sm (Kj (x,(i:Int),er,fi,at_,dd,k,t,ks)) (PS l D p 3):=fun x i er fi at_ dd k t ks h0 hi=>by
   simp only[Kj]
   exact Sm.some (.inr ⟨h0,i,rfl,by omega⟩)
  -- what ends with a ;
  have semi:∀ (f:(Int×Int×Int×Int×Int×List Node)→Option R9) (kk:Int),kOk kk=true→(∀ x21 x22 x23 x24 x25 x26,f (x21,x22,x23,x24,x25,x26)=(JS x21 [59] l x22 x23 x24 x25).bind fun r10=>Kj (e,r10.1,r10.2.1,r10.2.2.1,r10.2.2.2,x25,kk,(-1),x26)) →
    ∀ (i:Nat) (er fi at_ dd:Int) (ks:List Node),(er=0∧dd=((D+1:Nat):Int)∧p≤i∧WNs l 0 p i ks)∨(er≠0∧i≤l.length+10 * (40-(D+1))+4)→Sm (f ((i:Int),er,fi,at_,dd,ks)) (PS l D p 3):=by
   intro f kk hkk hf i er fi at_ dd ks hh
   rw[hf]
   rcases hh with⟨rfl,rfl,hpi,hw⟩|⟨h0,hi⟩
   ·have hi:=hw.2.1
    rcases Jcw (l:=l) (p:=i) (er:=0) (fi:=fi) (at_:=at_) (d:=((D+1:Nat):Int)) (s:=[59]) hB (by unfold BL; omega) with⟨c1,c2⟩|⟨c1,e1,f1,a3,c2,c3⟩
    ·obtain⟨a1,a2⟩:=Xa hl c1 (by decide)
     rw[c2,Option.bind_some]
     exact good e _ _ _ _ _ _ he (by omega) (WNs.mk (hw.skip a1 a2) (by omega) hkk)
    ·rw[c3,Option.bind_some]
     exact bad e _ _ _ _ _ _ _ _ c2 (by omega)
   ·obtain⟨e1,f1,a3,c2,c3⟩:=Jhk (l:=l) (p:=i) (er:=er) (fi:=fi) (at_:=at_) (d:=dd) (s:=[59]) hB (by have:=lB2 hl hi (by omega); omega) h0
    rw[c3,Option.bind_some]
    exact bad e _ _ _ _ _ _ _ _ c2 (by omega)
  have semi5:=semi (JaO e l) 8 rfl (fun _ _ _ _ _ _=>rfl)
  have semi7:=semi (JaT e l) 9 rfl (fun _ _ _ _ _ _=>rfl)
  by_cases w0:wd l p=[123]
  ·rw[if_pos (by rw[w0]; decide)]
   refine(h1 hd e p fi at_ he hel hp).bind ?_
   rintro ⟨ks6,i6,er6,fi6,at6,d6⟩ h6
   rcases h6 with⟨u1,u2,q6,u3,u4⟩|⟨u1,q6,u3,u4⟩
   ·simp only at u1 u2 u3 u4
    subst u1; subst u2; subst u3
    exact good e _ _ _ _ _ _ he (by have:=u4.1; omega) u4
   ·simp only at u1 u3
    subst u3
    exact bad e _ _ _ _ _ _ _ _ u1 (by omega)
  ·rw[if_neg (by simpa [eqS] using w0)]
   -- an if,or a while
   have cnd:okW (wd l p)=true→Sm (XF q2 e (p:Int) l (true,0,fi,at_,((D+1:Nat):Int)) (wd l p) true) (PS l D p 3):=by
    intro hok
    obtain⟨hpl,hpn⟩:=Xa hl (p:=p) rfl hok
    have hwl:=JtS (p:=p) hl
    simp only[XF,if_true]
    rw[if_pos hwl,wP (by unfold BL; omega)]
    have lp:∀ s,WI l D p (wd l p) s→Sm (Jt (ZM q2 e l (wd l p)) s) (PS l D p 3):=by
     intro s hs
     refine Sm.loop (WI l D p (wd l p)) (fun s=>XM l s.2.1 s.1) ?_ hs
     clear hs
     rintro ⟨i,er,fi,at_,dd,k,t,ks⟩ hs
     simp only[ZM,Xs,Option.bind_some,eqI,decide_eq_true_eq]
     rcases hs with⟨z1,z2,z3,z4,q,z5,z6,z7⟩|⟨h0,q,z3,z4⟩
     ·simp only at z1 z2 z3 z4 z5 z7
      subst z1; subst z2; subst z3; subst z4; subst z5
      have hq:=z7.2.1
      have hk:=JhW z7 hlen
      rw[if_pos rfl]
      refine(h2 hd e q fi at_ he (by omega) hq).bind ?_
      rintro ⟨k6,t6,ks6,i6,e6,er6,fi6,at6,d6⟩ h6
      simp only[List.length_cons,List.length_nil]
      rw[if_pos (by omega)]
      have out:∃ q6:Nat,i6=(q6:Int)∧((er6=0∧d6=((D+1:Nat):Int)∧q<q6∧WNs l 2 p q6 (ks++[⟨k6,t6,ks6⟩]))∨(er6≠0∧q6≤l.length+10 * (40-(D+1))+3)):=by
       rcases h6 with⟨u1,u2,u3,q6,u4,u5,u6⟩|⟨u1,q6,u3,u4⟩
       ·exact⟨q6,u4,.inl ⟨u1,u2,u5.1,z7.add u5⟩⟩
       ·exact⟨q6,u3,.inr ⟨u1,u4⟩⟩
      obtain⟨q6,rfl,out⟩:=out
      have stop:Sm (V0 e (ifK (wd l p)) (-1) (k6,t6,ks6,(q6:Int),e6,er6,fi6,at6,d6) (true,ks++[⟨k6,t6,ks6⟩])) (oS (fun s'=>WI l D p (wd l p) s'∧XM l s'.2.1 s'.1<XM l 0 (q:Int)) (PS l D p 3)):=by
       simp only[V0,if_true]
       rcases out with⟨rfl,rfl,o3,o4⟩|⟨o1,o2⟩
       ·exact Sm.inrO (good e _ _ _ _ _ _ he (by omega) (o4.mk (by simp) (Jx2 _)))
       ·exact Sm.inrO (bad e _ _ _ _ _ _ _ _ o1 (by omega))
      simp only[eqS,decide_eq_true_eq,ltI]
      by_cases w1:wd l p=[119,104,105,108,101]
      ·rw[if_pos w1]; exact stop
      ·rw[if_neg w1]
       by_cases w2:(2:Int)<((ks++[(⟨k6,t6,ks6⟩:Node)]).length:Int)
       ·rw[if_pos w2]; exact stop
       ·rw[if_neg w2,V8,Option.bind_some]
        by_cases w3:wd l q6=[101,108,115,101]
        ·obtain⟨a1,a2⟩:=Xa hl w3 (by decide)
         rw[show(!decide (wd l q6=[101,108,115,101]))=false from by rw[decide_eq_true w3]; rfl]
         simp only[V0,Bool.false_eq_true,if_false]
         rw[wP (by unfold BL; omega)]
         refine Sm.some ?_
         rcases out with⟨rfl,rfl,o3,o4⟩|⟨o1,o2⟩
         ·exact⟨.inl ⟨rfl,rfl,rfl,rfl,q6+1,rfl,by omega,(o4.skip a1 a2).weak (by omega)⟩,Jf5 (by omega) (by omega)⟩
         ·exact⟨.inr ⟨o1,q6+1,rfl,by omega⟩,JcX o1⟩
        ·rw[show(!decide (wd l q6=[101,108,115,101]))=true from by rw[decide_eq_false w3]; rfl]
         exact stop
     ·simp only at h0 z3
      subst z3
      rw[if_neg h0]
      exact Sm.inrO (bad e _ _ _ _ _ _ _ _ h0 (by omega))
    have cont:∀ (i:Nat) (er fi at_:Int),(er=0∧i=p+1+1∧i≤l.length∧WNs l 2 p i [])∨(er≠0∧i=p+1+1)→Sm ((Vd e (i:Int) 0 l er fi at_ ((D+1:Nat):Int)).bind fun r5=>(JS r5.2.2.2.1 [41] l r5.2.2.2.2.1 r5.2.2.2.2.2.1 r5.2.2.2.2.2.2.1 r5.2.2.2.2.2.2.2).bind fun r6=>if(([]:List Node).length + [(⟨r5.1,r5.2.1,r5.2.2.1⟩:Node)].length) * 40≤140737488355328 then Jt (ZM q2 e l (wd l p)) (r6.1,r6.2.1,r6.2.2.1,r6.2.2.2,r5.2.2.2.2.2.2.2,ifK (wd l p),(-1),([]:List Node)++[(⟨r5.1,r5.2.1,r5.2.2.1⟩:Node)]) else none) (PS l D p 3):=by
     intro i er fi at_ hh
     have ex:Sm (Vd e (i:Int) 0 l er fi at_ ((D+1:Nat):Int)) fun r=>(r.2.2.2.2.1=0∧r.2.2.2.2.2.2.2=((D+1:Nat):Int)∧∃ q:Nat,r.2.2.2.1=(q:Int)∧i<q∧WNs l 2 p q ([]++[⟨r.1,r.2.1,r.2.2.1⟩]))∨(r.2.2.2.2.1≠0∧∃ q:Nat,r.2.2.2.1=(q:Int)∧q≤l.length+10 * (40-(D+1))+2):=by
      rcases hh with⟨rfl,h5,h6,h7⟩|⟨h0,h5⟩
      ·refine(Jhq hl (show D+1≤30 by omega) e i 0 fi at_ h6 (by decide)).mono fun r hr=>?_
       rcases hr with⟨u1,u2,q6,u3,u4⟩|⟨u1,q6,u3,u4⟩
       ·exact .inl ⟨u1,u2,q6,u3,u4.1,h7.add u4⟩
       ·exact .inr ⟨u1,q6,u3,by omega⟩
      ·exact(JxG hl (p:=i) h0).mono fun r ⟨hr1,hr2⟩=>.inr ⟨hr2,i,hr1,by omega⟩
     refine ex.bind ?_
     rintro ⟨k6,t6,ks6,i6,er6,fi6,at6,d6⟩ h6
     simp only[List.length_cons,List.length_nil]
     rcases h6 with⟨u1,u2,q6,u3,u4,u5⟩|⟨u1,q6,u3,u4⟩
     ·simp only at u1 u2 u3 u5
      subst u1; subst u2; subst u3
      have hq6:=u5.2.1
      rcases Jcw (l:=l) (p:=q6) (er:=0) (fi:=fi6) (at_:=at6) (d:=((D+1:Nat):Int)) (s:=[41]) hB (by unfold BL; omega) with⟨c1,c2⟩|⟨c1,e1,f1,a3,c2,c3⟩
      ·obtain⟨a1,a2⟩:=Xa hl c1 (by decide)
       rw[c2,Option.bind_some,if_pos (by omega)]
       exact lp _ (.inl ⟨rfl,rfl,rfl,rfl,q6+1,rfl,by omega,(u5.skip a1 a2).weak (by omega)⟩)
      ·rw[c3,Option.bind_some,if_pos (by omega)]
       exact lp _ (.inr ⟨c2,q6+1,rfl,by omega⟩)
     ·simp only at u1 u3
      subst u3
      obtain⟨e1,f1,a3,c2,c3⟩:=Jhk (l:=l) (p:=q6) (er:=er6) (fi:=fi6) (at_:=at6) (d:=d6) (s:=[41]) hB (by have:=lB2 hl u4 (by omega); omega) u1
      rw[c3,Option.bind_some,if_pos (by omega)]
      exact lp _ (.inr ⟨c2,q6+1,rfl,by omega⟩)
    rcases Jcw (l:=l) (p:=p+1) (er:=0) (fi:=fi) (at_:=at_) (d:=((D+1:Nat):Int)) (s:=[40]) hB (by unfold BL; omega) with⟨c1,c2⟩|⟨c1,e1,f1,a3,c2,c3⟩
    ·obtain⟨a1,a2⟩:=Xa hl c1 (by decide)
     rw[c2,Option.bind_some]
     exact cont _ _ _ _ (.inl ⟨rfl,rfl,by omega,(((WNs.nil (l:=l) (p:=p) hp).skip hpl hpn).skip a1 a2).weak (by omega)⟩)
    ·rw[c3,Option.bind_some]
     exact cont _ _ _ _ (.inr ⟨c2,rfl⟩)
   by_cases w1:wd l p=[105,102]
   ·rw[if_pos (by rw[w1]; decide)]
    exact cnd (by rw[w1]; decide)
   ·rw[if_neg (by simpa [eqS] using w1)]
    by_cases w2:wd l p=[119,104,105,108,101]
    ·rw[show eqS (wd l p) [119,104,105,108,101]=true from by rw[w2]; decide]
     exact cnd (by rw[w2]; decide)
    ·rw[show eqS (wd l p) [119,104,105,108,101]=false from by simpa [eqS] using w2]
     simp only[XF,Bool.false_eq_true,if_false]
     -- a declaration,or an expression
     have dcl:Sm (XB e (p:Int) l (true,0,fi,at_,((D+1:Nat):Int)) (wd l p) true) (PS l D p 3):=by
      simp only[XB,if_true]
      refine(JrX hl (show D+1≤30 by omega) he hp hel).bind ?_
      rintro ⟨k6,t6,ks6,i6,e6,er6,fi6,at6,d6⟩ h6
      rcases h6 with⟨u1,u2,u3,q6,u4,u5,u6⟩|⟨u1,q6,u3,u4⟩
      ·simp only at u1 u2 u3 u4 u5 u6
       subst u1; subst u2; subst u4
       exact good e6 _ _ _ _ _ _ u3 u6 u5
      ·simp only at u1 u3
       subst u3
       exact bad e6 _ _ _ _ _ _ _ _ u1 (by omega)
     by_cases w3:wd l p=[114,101,116,117,114,110]
     ·obtain⟨hpl,hpn⟩:=Xa hl w3 (by decide)
      rw[if_pos (by rw[w3]; decide),wP (by unfold BL; omega),V8,Option.bind_some]
      by_cases w4:wd l (p+1)=[59]
      ·rw[if_neg (by rw[w4]; decide)]
       exact semi5 _ _ _ _ _ _ (.inl ⟨rfl,rfl,by omega,((WNs.nil (l:=l) (p:=p) hp).skip hpl hpn).weak (by omega)⟩)
      ·rw[if_pos (by simpa [eqS] using w4)]
       refine(Jhq hl (show D+1≤30 by omega) e (p+1) 0 fi at_ (by omega) (by decide)).bind ?_
       rintro ⟨k6,t6,ks6,i6,er6,fi6,at6,d6⟩ h6
       simp only[List.length_cons,List.length_nil]
       rw[if_pos (by omega)]
       rcases h6 with⟨u1,u2,q6,u3,u4⟩|⟨u1,q6,u3,u4⟩
       ·simp only at u1 u2 u3 u4
        subst u1; subst u2; subst u3
        exact semi5 _ _ _ _ _ _ (.inl ⟨rfl,rfl,by have:=u4.1; omega,(((WNs.nil (l:=l) (p:=p) hp).skip hpl hpn).add u4).weak (by omega)⟩)
       ·simp only at u1 u3
        subst u3
        exact semi5 _ _ _ _ _ _ (.inr ⟨u1,by omega⟩)
     ·rw[if_neg (by simpa [eqS] using w3)]
      by_cases w4:wd l p=[116,121,112,101,100,101,102]
      ·rw[if_pos (by rw[w4]; decide)]; exact dcl
      ·rw[if_neg (by simpa [eqS] using w4),Jns hl,Option.bind_some]
       cases hty:Jai (wd l p) || ebV e (wd l p) with
       | true=>exact dcl
       | false =>
        simp only[XB,Bool.false_eq_true,if_false]
        by_cases w5:wd l p=[59]
        ·rw[if_neg (by rw[w5]; decide)]
         exact semi7 _ _ _ _ _ _ (.inl ⟨rfl,rfl,Nat.le_refl _,WNs.nil hp⟩)
        ·rw[if_pos (by simpa [eqS] using w5)]
         refine(Jhq hl (show D+1≤30 by omega) e p 0 fi at_ hp (by decide)).bind ?_
         rintro ⟨k6,t6,ks6,i6,er6,fi6,at6,d6⟩ h6
         simp only[List.length_cons,List.length_nil]
         rw[if_pos (by omega)]
         rcases h6 with⟨u1,u2,q6,u3,u4⟩|⟨u1,q6,u3,u4⟩
         ·simp only at u1 u2 u3 u4
          subst u1; subst u2; subst u3
          exact semi7 _ _ _ _ _ _ (.inl ⟨rfl,rfl,by have:=u4.1; omega,(WNs.nil (l:=l) (p:=p) hp).add u4⟩)
         ·simp only at u1 u3
          subst u3
          exact semi7 _ _ _ _ _ _ (.inr ⟨u1,by omega⟩)
 ·rw[h]
  exact Sm.some (.inr ⟨h0,p,rfl,by omega⟩)
theorem JgR:∀ (m D:Nat),D≤30→31-D+1≤m→BOk l (KK m).1 D∧SOk l (KK m).2 D
 | 0,D,hD,h=>by omega
 | m+1,D,hD,h=>by
  refine⟨Jwe (q1:=(KK m).1) hl hD (fun hd=>(JgR m (D+1) (by omega) (by omega)).2),JxY hl hD (fun hd=>(JgR m (D+1) (by omega) (by omega)).1) (fun hd=>(JgR m (D+1) (by omega) (by omega)).2)⟩
theorem JuM{D:Nat}(hD:D≤30):BOk l Jb4 D:=(JgR hl bigF D hD (Nat.le_trans (by omega:31-D+1≤100) (by decide))).1
end
end Go.Proofs.Ytaofbminodhcnaa
