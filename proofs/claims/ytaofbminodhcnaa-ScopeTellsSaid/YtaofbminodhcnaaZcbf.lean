/- preref9's functions and files,plain. -/
import Derived.Test.YtaofbminodhcnaaZcbe
set_option linter.unusedVariables false
set_option linter.unusedSimpArgs false
namespace Go.Proofs.Ytaofbminodhcnaa
open Go.RowKit
theorem WNs.fn{l:TL}{s p q:Nat}{ks:List Node}(h:WNs l s p q ks)(hs:2≤ks.length+s)(hk:FnK ks):WN l p q ⟨3,-1,ks⟩:=by
 obtain⟨h1,h2,h3,h4,h5⟩:=h
 refine⟨by omega,h2,?_,?_,?_⟩
 ·rw[TW]
  exact⟨fun h=>by omega,fun h=>by omega,fun _=>hk,h3⟩
 ·rw[vis,if_neg (by decide),if_neg (by decide),List.nil_append,h4]
 ·rw[nsz]; omega
section
variable {l:TL} (hl:TokOk l)
include hl
abbrev S7:=Int×EB×Int×Int×Int×Int×List Node
def FI(l:TL)(D p q0:Nat)(s:S7):Prop :=
 (s.2.2.1=0∧s.2.2.2.2.2.1=(D:Int)∧EvOk s.2.1∧∃ q:Nat,s.1=(q:Int)∧(s.2.1.length≤q∧q0≤q)∧WNs l 2 p q s.2.2.2.2.2.2∧∃ (t0 t1:Int) (ps:List Node),s.2.2.2.2.2.2=⟨16,t0,[]⟩::⟨4,t1,[]⟩::ps)∨FE l D 4 s.1 s.2.2.1
theorem JuX{D:Nat}(hD:D≤30){e:EB}(he:EvOk e){p:Nat}{fi at_:Int}(hp:p≤l.length)(hel:e.length≤p):Sm (Jax e (p:Int) l 0 fi at_ (D:Int)) (PS l D p 6):=by
 have hB:=lB hl
 have hlen:=hl.len
 unfold Jax
 rw[V8,Option.bind_some]
 simp only[eqS,decide_eq_true_eq]
 by_cases w:wd l p=[116,121,112,101,100,101,102]
 ·rw[if_pos w]
  refine(JrX hl hD he hp hel).bind ?_
  rintro ⟨k6,t6,ks6,i6,e6,er6,fi6,at6,d6⟩ h6
  refine Sm.some ?_
  rcases h6 with h6 | ⟨u1,q6,u3,u4⟩
  ·exact .inl h6
  ·exact .inr ⟨u1,q6,u3,by omega⟩
 ·rw[if_neg w]
  rcases JlL hl he (p:=p) (er:=0) (fi:=fi) (at_:=at_) (d:=(D:Int)) (by omega) with⟨b1,b2,b3⟩|⟨e1,f1,a1,b1,b2⟩
  ·rw[b3]
   simp only[Option.bind_some,Xs,eqI,decide_true,Bool.not_true,Bool.false_eq_true,if_false]
   refine(Jd8 hl hD he (p:=p+1) (by omega) (by omega)).bind ?_
   rintro ⟨t4,ks4,i4,e4,er4,fi4,at4,d4⟩ hr
   have hri:RI l D p (e4,i4,er4,fi4,at4,d4,[⟨16,(p:Int),[]⟩],4,t4,ks4):=by
    rcases hr with⟨u1,u2,u3,q4,u4,u5,u6⟩|⟨u1,q4,u3,u4⟩
    ·simp only at u1 u2 u3 u4 u5 u6
     subst u1; subst u2; subst u4
     exact .inl ⟨rfl,rfl,u3,rfl,p+1,q4,rfl,b2.one,u5,u6⟩
    ·exact .inr ⟨u1,q4,u3,by omega⟩
   have rst:Sm (VK (p:Int) l (t4,ks4,i4,e4,er4,fi4,at4,d4) true) (PS l D p 6):=by
    simp only[VK,if_true]
    refine(JqQ hl hD (typ:=false) _ hri).bind ?_
    rintro ⟨ks5,i5,e5,er5,fi5,at5,d5⟩ h5
    refine Sm.some ?_
    rcases h5 with⟨u1,u2,u3,q5,u4,u5,u6,u7⟩|⟨u1,q5,u3,u4⟩
    ·simp only at u1 u2 u3 u4 u5 u6 u7
     subst u1; subst u2; subst u4
     exact .inl ⟨rfl,rfl,u3,q5,rfl,WNs.mk (k:=2) (t:=-1) u5 (by omega) rfl,u6⟩
    ·exact .inr ⟨u1,q5,u3,by omega⟩
   rcases hr with⟨u1,u2,u3,q4,u4,u5,u6⟩|⟨u1,q4,u3,u4⟩
   ·simp only at u1 u2 u3 u4 u5 u6
    subst u1; subst u2; subst u4
    have hq4:=u5.2.1
    simp only[decide_true,Bool.not_true,Bool.false_eq_true,if_false,ltI,decide_eq_true_eq]
    by_cases h0:(0:Int)<(ks4.length:Int)
    ·rw[if_pos h0]; exact rst
    ·rw[if_neg h0,V8,Option.bind_some]
     have hks:ks4=[]:=List.length_eq_zero_iff.1 (by omega)
     subst hks
     by_cases w1:wd l q4=[40]
     ·obtain⟨a1,a2⟩:=Xa hl w1 (by decide)
      rw[show(!decide (wd l q4=[40]))=false from by rw[decide_eq_true w1]; rfl]
      simp only[VK,Bool.false_eq_true,if_false]
      rw[wP (by unfold BL; omega)]
      -- ways out
      have bad:∀ (i:Nat) (x:EB) (er fi at_ dd:Int) (ks:List Node),er≠0→i≤l.length+10 * (40-D)+4→Sm (VM l (t4,[],(q4:Int),e4,0,fi4,at4,(D:Int)) ((i:Int),x,er,fi,at_,dd,ks)) (PS l D p 6):=fun i x er fi at_ dd ks h0 hi=>by
       simp only[VM,Xs,Option.bind_some,eqI,h0,decide_false,Bool.not_false,if_true]
       exact Sm.some (.inr ⟨h0,i,rfl,by omega⟩)
      refine Sm.loop (FI l D p q4) (fun s=>XM l s.2.2.1 s.1) ?_ (.inl ⟨rfl,rfl,u3,q4+1,rfl,by simp only; omega,(b2.one.add u5).skip a1 a2,_,_,[],rfl⟩)
      rintro ⟨i,x,er,fi,at_,dd,ks⟩ hs
      simp only[Jcd,Xs,Option.bind_some,eqI,decide_eq_true_eq]
      rcases hs with⟨z1,z2,z3,q,z5,⟨z6,z9⟩,z7,t0,t1,ps,z8⟩|⟨h0,q,z3,z4⟩
      ·simp only at z1 z2 z3 z5 z6 z7 z8 z9
       subst z1; subst z2; subst z5
       have hq:=z7.2.1
       have hk:=JhW z7 hlen
       rw[if_pos rfl,V8,Option.bind_some]
       simp only[X7,eqS,Bool.not_eq_true',decide_eq_false_iff_not,ltI,decide_eq_true_eq]
       by_cases w2:wd l q=[41]
       ·obtain⟨c1,c2⟩:=Xa hl w2 (by decide)
        rw[if_neg (by simpa using w2)]
        refine Sm.inrO ?_
        show Sm _ (PS l D p 6)
        simp only[VM,Xs,Option.bind_some,eqI,decide_true,Bool.not_true,Bool.false_eq_true,if_false]
        rw[wP (by unfold BL; omega)]
        refine(JuM hl hD x (q+1) fi at_ z3 (by omega) (by omega)).bind ?_
        rintro ⟨ks6,i6,er6,fi6,at6,d6⟩ h6
        simp only[List.length_cons,List.length_nil]
        rw[if_pos (by omega)]
        refine Sm.some ?_
        rcases h6 with⟨v1,v2,q6,v3,v4⟩|⟨v1,q6,v3,v4⟩
        ·simp only at v1 v2 v3 v4
         subst v1; subst v2; subst v3
         refine .inl ⟨rfl,rfl,u3,q6,rfl,((z7.skip c1 c2).add v4).fn (by simp) ⟨t0,t1,ps,ks6,by rw[z8]; rfl⟩,?_⟩
         have:=v4.1
         have:=z7.1
         simp only; omega
        ·exact .inr ⟨v1,q6,v3,by omega⟩
       ·rw[if_pos w2]
        have more:∀ (i:Nat) (er fi at_:Int),(er=0∧q≤i∧WNs l 2 p i ks)∨(er≠0∧i≤l.length+2) →
          Sm (Xi l (t4,[],(q4:Int),e4,0,fi4,at4,(D:Int)) x (D:Int) ks ((i:Int),er,fi,at_)) (oS (fun s'=>FI l D p q4 s'∧XM l s'.2.2.1 s'.1<XM l 0 (q:Int)) (PS l D p 6)):=by
         rintro i er fi at_ (⟨rfl,y2,y3⟩|⟨h0,y1⟩)
         ·have hi:=y3.2.1
          simp only[Xi,Xs,Option.bind_some,eqI,decide_true,Bool.not_true,Bool.false_eq_true,if_false]
          rcases JlL hl z3 (p:=i) (er:=0) (fi:=fi) (at_:=at_) (d:=(D:Int)) (by omega) with⟨d1,d2,d3⟩|⟨e1,f1,a1,d1,d2⟩
          ·rw[d3]
           simp only[Option.bind_some,decide_true,Bool.not_true,Bool.false_eq_true,if_false]
           refine(Jd8 hl hD z3 (p:=i+1) (by omega) (by omega)).bind ?_
           rintro ⟨t7,ks7,i7,e7,er7,fi7,at7,d7⟩ h7
           simp only[List.length_cons,List.length_nil]
           rw[if_pos (by omega)]
           refine Sm.some ?_
           rcases h7 with⟨v1,v2,v3,q7,v4,v5,v6⟩|⟨v1,q7,v3,v4⟩
           ·simp only at v1 v2 v3 v4 v5 v6
            subst v1; subst v2; subst v4
            have hdl:WN l i q7 ⟨2,-1,[⟨16,(i:Int),[]⟩,⟨4,t7,ks7⟩]⟩:=WNs.mk (k:=2) (t:=-1) (d2.one.add v5) (by simp) rfl
            exact⟨.inl ⟨rfl,rfl,v3,q7,rfl,⟨v6,by have:=v5.1; omega⟩,y3.add hdl,t0,t1,ps++[⟨2,-1,[⟨16,(i:Int),[]⟩,⟨4,t7,ks7⟩]⟩],by rw[z8]; rfl⟩,Jf5 (by have:=v5.1; omega) v5.2.1⟩
           ·simp only at v1 v3
            exact⟨.inr ⟨v1,q7,v3,by omega⟩,JcX v1⟩
          ·rw[d2]
           simp only[Option.bind_some,d1,decide_false,Bool.not_false,if_true]
           exact Sm.inrO (bad _ _ _ _ _ _ _ d1 (by omega))
         ·simp only[Xi,Xs,Option.bind_some,eqI,h0,decide_false,Bool.not_false,if_true]
          exact Sm.inrO (bad _ _ _ _ _ _ _ h0 (by omega))
        by_cases h2:(2:Int)<(ks.length:Int)
        ·rw[if_pos h2]
         rcases Jcw (l:=l) (p:=q) (er:=0) (fi:=fi) (at_:=at_) (d:=(D:Int)) (s:=[44]) hB (by unfold BL; omega) with⟨c1,c2⟩|⟨c1,e1,f1,a1,c2,c3⟩
         ·obtain⟨c3,c4⟩:=Xa hl c1 (by decide)
          rw[c2,Option.bind_some]
          exact more _ _ _ _ (.inl ⟨rfl,by omega,(z7.skip c3 c4).weak (by omega)⟩)
         ·rw[c3,Option.bind_some]
          exact more _ _ _ _ (.inr ⟨c2,by omega⟩)
        ·rw[if_neg h2]
         exact more _ _ _ _ (.inl ⟨rfl,Nat.le_refl _,z7⟩)
      ·simp only at h0 z3
       subst z3
       rw[if_neg h0]
       simp only[X7,Bool.false_eq_true,if_false]
       exact Sm.inrO (bad _ _ _ _ _ _ _ h0 z4)
     ·rw[show(!decide (wd l q4=[40]))=true from by rw[decide_eq_false w1]; rfl]
      exact rst
   ·simp only at u1
    simp only[u1,decide_false,Bool.not_false,if_true]
    exact rst
  ·rw[b2]
   simp only[Option.bind_some,Xs,eqI,b1,decide_false,Bool.not_false,if_true]
   exact Sm.some (.inr ⟨b1,p+1,rfl,by omega⟩)
abbrev S7P:=EB×Int×Int×Int×Int×Int×List Node
def FP(l:TL)(s:S7P):Prop :=
 (s.2.2.1=0∧s.2.2.2.2.2.1=0∧EvOk s.1∧∃ q:Nat,s.2.1=(q:Int)∧s.1.length≤q∧WNs l 0 0 q s.2.2.2.2.2.2)∨FE l 0 6 s.2.1 s.2.2.1
def PP(l:TL)(r:Node×Fault):Prop:=(r.2.Err≠0∧r.1=⟨0,0,[]⟩)∨(r.2.Err=0∧∃ ks,r.1=⟨1,-1,ks⟩∧WNs l 0 0 l.length ks)
theorem Ju3:Sm (Jc1 l) (PP l):=by
 have hB:=lB hl
 have hlen:=hl.len
 refine Sm.loop (FP l) (fun s=>XM l s.2.2.1 s.2.1) ?_ (.inl ⟨rfl,rfl,EvOk.nil,0,rfl,Nat.le_refl _,WNs.nil (Nat.zero_le _)⟩)
 rintro ⟨x,i,er,fi,at_,dd,ks⟩ hs
 simp only[JcL,Xs,Option.bind_some,eqI,ltI,decide_eq_true_eq]
 rcases hs with⟨z1,z2,z3,q,z5,z6,z7⟩|⟨h0,q,z3,z4⟩
 ·simp only at z1 z2 z3 z5 z6 z7
  subst z1; subst z2; subst z5
  have hq:=z7.2.1
  by_cases hn:q<l.length
  ·rw[if_pos (by omega)]
   simp only[Xk,decide_true,if_true]
   refine(JuX hl (D:=0) (by omega) z3 hq z6).bind ?_
   rintro ⟨k6,t6,ks6,i6,e6,er6,fi6,at6,d6⟩ h6
   simp only[List.length_cons,List.length_nil]
   have hk:=JhW z7 hlen
   rw[if_pos (by omega)]
   refine Sm.some ?_
   rcases h6 with⟨u1,u2,u3,q6,u4,u5,u6⟩|⟨u1,q6,u3,u4⟩
   ·simp only at u1 u2 u3 u4 u5 u6
    subst u1; subst u4
    exact⟨.inl ⟨rfl,u2,u3,q6,rfl,u6,z7.add u5⟩,Jf5 (by have:=u5.1; omega) u5.2.1⟩
   ·simp only at u1 u3
    exact⟨.inr ⟨u1,q6,u3,by omega⟩,JcX u1⟩
  ·rw[if_neg (by omega)]
   simp only[Xk,Bool.false_eq_true,if_false,Xs,Option.bind_some,eqI,decide_true,Bool.not_true]
   have e:q=l.length:=by omega
   subst e
   exact Sm.inrO (Sm.some (.inr ⟨rfl,ks,rfl,z7⟩))
 ·simp only at h0 z3
  have hj:Sm (Xk l x i er fi at_ dd ks false) (oS (fun s'=>FP l s'∧XM l s'.2.2.1 s'.2.1<XM l er i) (PP l)):=by
   simp only[Xk,Bool.false_eq_true,if_false,Xs,Option.bind_some,eqI,h0,decide_false,Bool.not_false,if_true]
   exact Sm.inrO (Sm.some (.inl ⟨h0,rfl⟩))
  by_cases hn:i<(l.length:Int)
  ·rw[if_pos hn,decide_eq_false h0]; exact hj
  ·rw[if_neg hn]; exact hj
end
end Go.Proofs.Ytaofbminodhcnaa
