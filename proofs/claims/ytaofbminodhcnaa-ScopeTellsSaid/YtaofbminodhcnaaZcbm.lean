/- Both scopes,together. Plain. -/
import Derived.Test.YtaofbminodhcnaaZcbl
set_option linter.unusedVariables false
set_option linter.unusedSimpArgs false
namespace Go.Proofs.Ytaofbminodhcnaa
open Go.RowKit
section
variable {l:TL}
structure SI (l:TL) (R:List KD) (top:KD) (out:List Bind) (T:List Int):Prop where
 o:OI l (R++[top]) out T
 n:top.length+(KN R).length≤out.length
def REL(l:TL)(R:List KD)(T:List Int)(fi at_:Int)(B:Nat)(z:ST):GR (Int×Int×Int×List KD×List Bind) (List KD×List Bind)→Prop
 | .ok o=>∃ top',o.1=R++[top']∧z=(0,fi,at_,mOf o.2,top'++KN R,top')∧SI l R top' o.2 T
 | .er e=>e.1≠0∧z.1=e.1∧z.2.1=e.2.1∧z.2.2.1=e.2.2.1∧z.2.2.2.2.1.length≤B∧z.2.2.2.2.2.length≤B
def SimN(l:TL)(f:WF)(q:GF)(x:Node)(V:List Int)(s B:Nat):Prop:=∀ (R:List KD) (top:KD) (out:List Bind) (T:List Int) (fi at_:Int),SI l R top out T→Up l (T++V)→R.length+1+s≤BL→∃ r y,f x l (R++[top]) out=some r∧q (top++KN R) top x l 0 fi at_ (mOf out)=some y∧REL l R (T++V) fi at_ B (toST y) r
def SimF(l:TL)(f:WF)(q:GF)(ks:List Node)(s B:Nat):Prop:=∀ (R:List KD) (top:KD) (out:List Bind) (T:List Int) (fi at_:Int),SI l R top out T→Up l (T++visL l ks)→R.length+1+s≤BL→∃ r z,Ja4 f l ks (R++[top]) out=some r∧XJ q l ks (0,fi,at_,mOf out,top++KN R,top)=some z∧REL l R (T++visL l ks) fi at_ B z r
theorem Jfa{f:WF}{q:GF}{s B:Nat}(hB:B≤1000000):∀ (ks:List Node),(∀ y∈ks,FTn l q y)→(∀ y∈ks,∀ B,3000+nsz y≤B→B≤1000000→SimN l f q y (vis l y) s B)→∀ B0,3000≤B0→B0+nszs ks≤B→SimF l f q ks s B
 | [],_,_,B0,h0,hB0=>fun R top out T fi at_ h hu hk=>by
  rw[visL,List.append_nil]at hu ⊢
  exact⟨_,_,rfl,rfl,top,rfl,rfl,h⟩
 | y::ks,hF,hS,B0,h0,hB0=>fun R top out T fi at_ h hu hk=>by
  have hbl:BL=1000000000000:=rfl
  rw[nszs]at hB0
  rw[visL,← List.append_assoc]at hu ⊢
  obtain⟨r,z,h1,h2,h3⟩:=hS y (by simp) (B0+nsz y) (by omega) (by omega) R top out T fi at_ h hu.left hk
  rw[Ja4,h1,XJ,h2]
  simp only[Option.bind_some]
  cases r with
  | ok o =>
   obtain⟨top',e1,e2,e3⟩:=h3
   simp only[Go.Proofs.Ytaofbminodhcnaa.grB]
   rw[e1,e2]
   exact Jfa hB ks (fun y hy=>hF y (List.mem_cons_of_mem _ hy)) (fun y hy=>hS y (List.mem_cons_of_mem _ hy)) B0 h0 (by omega) R top' o.2 _ fi at_ e3 hu hk
  | er e =>
   obtain⟨e0,e1,e2,e3,e4,e5⟩:=h3
   simp only[Go.Proofs.Ytaofbminodhcnaa.grB]
   obtain⟨w,g1,g2,g3,g4,g5,g6⟩:=Jba ks (fun y hy=>hF y (List.mem_cons_of_mem _ hy)) (toST z) (by rw[e1]; exact e0) (by omega) (by omega)
   exact⟨_,w,rfl,g1,e0,g2.trans e1,g3.trans e2,g4.trans e3,by omega,by omega⟩
theorem SI.al{R:List KD}{top:KD}{out:List Bind}{T:List Int}(h:SI l R top out T)(hu:T.length≤3000):(top++KN R).length≤3000:=by
 have:=h.n
 have:=h.o.len
 rw[List.length_append]
 omega
theorem JqO(hl:TokOk l){R:List KD}{top:KD}{out:List Bind}{T:List Int}{t fi at_:Int}{B:Nat}(h:SI l R top out T)(hu:Up l (T++[t]))(hk:R.length+1≤BL)(hB:3000≤B):
  (∃ v,Vn t l (R++[top]) out=some (.ok (out++[⟨t,v⟩]))∧KM (top++KN R) top t l 0 fi at_ (mOf out)=some (0,fi,at_,mOf (out++[⟨t,v⟩]))∧SI l R top (out++[⟨t,v⟩]) (T++[t])) ∨
  (∃ f a,Vn t l (R++[top]) out=some (.er (f,a))∧KM (top++KN R) top t l 0 fi at_ (mOf out)=some (6,f,a,mOf out)):=by
 have ht:=hu.2.1 t (by simp)
 have hT:=hu.left.2.2
 have hm:(mOf out).length≤BL:=by rw[JrM,h.o.len]; unfold BL; omega
 have hK:(R++[top]).length≤BL:=by simpa using hk
 have hue:=JxO hl h.o hu hK
 have huo:=JxQ hl h.o hu hK
 have hg:=Jwj (al:=top++KN R) (i_:=top) (fi:=fi) (at_:=at_) hl ht hm
 rw[JdB]at hue
 cases hx:xGet (top++KN R) (tokT l t) with
 | some v =>
  rw[hx]at hue hg
  refine .inl ⟨v,hue,by rw[Jrj]; exact hg,?_⟩
  obtain⟨r,e1,e2⟩:=huo
  have hue:Vn t l (R++[top]) out=some (.ok (out++[⟨t,v⟩])):=hue
  rw[hue]at e1
  cases e1
  exact⟨e2,by have:=h.n; simp; omega⟩
 | none =>
  rw[hx]at hue hg
  exact .inr ⟨_,_,hue,hg⟩
theorem Jp1(hl:TokOk l){R:List KD}{top:KD}{out:List Bind}{T:List Int}{t fi at_:Int}(h:SI l R top out T)(hu:Up l (T++[t])):
  (KO t l (R++[top]) out=some (.ok (R++[(tokT l t,t)::top],out++[⟨t,t⟩]))∧KU (top++KN R) top t l 0 fi at_ (mOf out)=some (((tokT l t,t)::top)++KN R,(tokT l t,t)::top,0,fi,at_,mOf (out++[⟨t,t⟩]))∧SI l R ((tokT l t,t)::top) (out++[⟨t,t⟩]) (T++[t])) ∨
  (∃ f a,KO t l (R++[top]) out=some (.er (f,a))∧KU (top++KN R) top t l 0 fi at_ (mOf out)=some (top++KN R,top,7,f,a,mOf out)):=by
 have ht:=hu.2.1 t (by simp)
 have hT:=hu.left.2.2
 have hbl:BL=1000000000000:=rfl
 have hm:(mOf out).length≤BL:=by rw[JrM,h.o.len]; omega
 have ha:=h.al hT
 have hi:top.length≤BL:=by have:=h.n; have:=h.o.len; omega
 have hme:=Jxl hl h.o hu
 have hmo:=Jwq hl h.o hu
 have hg:=JuI (al:=top++KN R) (i_:=top) (fi:=fi) (at_:=at_) hl ht hm (by omega) hi
 by_cases hh:enH top (tokT l t)=true
 ·rw[if_pos hh]at hme hg
  exact .inr ⟨_,_,hme,hg⟩
 ·rw[if_neg hh]at hme hg
  refine .inl ⟨hme,by rw[Jrj]; exact hg,?_⟩
  obtain⟨r,e1,e2⟩:=hmo
  rw[hme]at e1
  cases e1
  exact⟨e2.1,by have:=h.n; simp; omega⟩
theorem SI.mono_out{R:List KD}{top top1:KD}{out out1:List Bind}{T T1:List Int}(h:SI l R top1 out1 T1)(h2:SI l (R++[top1]) top out T)(hT:T1.length≤T.length):SI l R top1 out T:=by
 refine⟨?_,?_⟩
 ·have:=h2.o.drop (by simp)
  rwa [List.dropLast_concat]at this
 ·have:=h.n; have:=h.o.len; have:=h2.o.len; omega
theorem Jtj(hl:TokOk l)(m k:Nat){t:Int}(ht:0≤t∧t<(l.length:Int)){R:List KD}{top:KD}{out:List Bind}{T:List Int}{fi at_:Int}(h:SI l R top out T)(hu:Up l (T++vis l ⟨16,t,[]⟩))(hk:R.length+1≤BL):
  (∃ out',(Ja (m+1)).1 ⟨16,t,[]⟩ l (R++[top]) out=some (.ok (R++[top],out'))∧JN (k+1) (top++KN R) top ⟨16,t,[]⟩ l 0 fi at_ (mOf out)=some (top++KN R,top,0,fi,at_,mOf out')∧SI l R top out' (T++vis l ⟨16,t,[]⟩)) ∨
  (∃ f a,(Ja (m+1)).1 ⟨16,t,[]⟩ l (R++[top]) out=some (.er (6,f,a,R++[top],out))∧JN (k+1) (top++KN R) top ⟨16,t,[]⟩ l 0 fi at_ (mOf out)=some (top++KN R,top,6,f,a,mOf out)):=by
 show(∃ out',Vv (Ja m).1 (Ja m).2.1 (Ja m).2.2.1 (Ja m).2.2.2.1 (Ja m).2.2.2.2.1 (Ja m).2.2.2.2.2 ⟨16,t,[]⟩ l (R++[top]) out=_∧JL (JN k) (top++KN R) top ⟨16,t,[]⟩ l 0 fi at_ (mOf out)=_∧_)∨(∃ f a,Vv (Ja m).1 (Ja m).2.1 (Ja m).2.2.1 (Ja m).2.2.2.1 (Ja m).2.2.2.2.1 (Ja m).2.2.2.2.2 ⟨16,t,[]⟩ l (R++[top]) out=_∧JL (JN k) (top++KN R) top ⟨16,t,[]⟩ l 0 fi at_ (mOf out)=_)
 unfold Vv
 simp only[eqI,decide_eq_true_eq]
 rw[if_pos trivial,if_pos (by omega),Juz ht]
 rw[vis,if_pos rfl,visL,List.append_nil]at hu ⊢
 have hj:(∃ out',KR ⟨16,t,[]⟩ l (R++[top]) out (Jai (l.getD t.toNat default).Text)=some (.ok (R++[top],out'))∧(if Jai (l.getD t.toNat default).Text=true then some (top++KN R,top,(0:Int),fi,at_,mOf out) else(KM (top++KN R) top t l 0 fi at_ (mOf out)).bind fun r=>some (top++KN R,top,r.1,r.2.1,r.2.2.1,r.2.2.2))=some (top++KN R,top,0,fi,at_,mOf out')∧SI l R top out' (T++if Jai (l.getD t.toNat default).Text=true then [] else [t])) ∨
   (∃ f a,KR ⟨16,t,[]⟩ l (R++[top]) out (Jai (l.getD t.toNat default).Text)=some (.er (6,f,a,R++[top],out))∧(if Jai (l.getD t.toNat default).Text=true then some (top++KN R,top,(0:Int),fi,at_,mOf out) else(KM (top++KN R) top t l 0 fi at_ (mOf out)).bind fun r=>some (top++KN R,top,r.1,r.2.1,r.2.2.1,r.2.2.2))=some (top++KN R,top,6,f,a,mOf out)):=by
  unfold KR
  cases hb:Jai (l.getD t.toNat default).Text with
  | true =>
   simp only[if_true,List.append_nil]
   exact .inl ⟨_,rfl,rfl,h⟩
  | false =>
   rw[hb]at hu
   simp only[Bool.false_eq_true,if_false]at hu ⊢
   rcases JqO hl (fi:=fi) (at_:=at_) (B:=3000) h hu hk (Nat.le_refl _) with⟨v,a1,a2,a3⟩|⟨f,a,a1,a2⟩
   ·rw[a1,a2]
    exact .inl ⟨_,rfl,rfl,a3⟩
   ·rw[a1,a2]
    exact .inr ⟨_,_,rfl,rfl⟩
 unfold Jai at hj ⊢
 generalize (l.getD t.toNat default).Text=tx at hj ⊢
 by_cases b1:eqS tx [105,110,116]=true
 ·rw[if_pos b1]; simpa only[b1,Bool.true_or] using hj
 ·rw[if_neg b1]
  rw[Bool.not_eq_true]at b1
  by_cases b2:eqS tx [99,104,97,114]=true
  ·rw[if_pos b2]; simpa only[b1,b2,Bool.true_or,Bool.false_or] using hj
  ·rw[if_neg b2]
   rw[Bool.not_eq_true]at b2
   by_cases b3:eqS tx [108,111,110,103]=true
   ·rw[if_pos b3]; simpa only[b1,b2,b3,Bool.true_or,Bool.false_or] using hj
   ·rw[if_neg b3]
    rw[Bool.not_eq_true]at b3
    simpa only[b1,b2,b3,Bool.false_or] using hj
theorem Jvd(hl:TokOk l):∀ (N:Nat) (x:Node),nsz x≤N→TW l x→∀ (m k:Nat),4 * nsz x≤m→nsz x≤k→∀ s,nsz x≤s→s≤100000→∀ B,3000+nsz x≤B→B≤1000000→SimN l (Ja m).1 (JN k) x (vis l x) s B:=by
 intro N
 induction N with
 | zero=>intro x hx; have:=JlQ x; omega
 | succ N ih =>
  rintro ⟨kd,t,ks⟩ hN hw m k hm hk s hs hsb B hB1 hB2 R top out T fi at_ h hu hR
  have hbl:BL=1000000000000:=rfl
  rw[nsz]at hN hm hk hs hB1
  obtain⟨n,rfl⟩:∃ n,m=n+4:=⟨m-4,by omega⟩
  obtain⟨k,rfl⟩:∃ j,k=j+1:=⟨k-1,by omega⟩
  rw[TW]at hw
  obtain⟨w1,w2,w3,w4⟩:=hw
  have hls:=Jdw ks
  have hKB:R.length+1≤BL:=by omega
  have hkF:∀ y∈ks,FTn l (JN k) y:=fun y hy=>JtC hl k y (by have:=Jfo hy; omega) (JcY hy w4)
  have hkS:∀ y∈ks,∀ j,n≤j→∀ s',nszs ks≤s'→s'≤100000→∀ B,3000+nsz y≤B→B≤1000000→SimN l (Ja j).1 (JN k) y (vis l y) s' B:=fun y hy j hj s' h1 h2 B h3 h4=>by
   have:=Jfo hy
   exact ih y (by omega) (JcY hy w4) j k (by omega) (by omega) s' (by omega) h2 B h3 h4
  have hT:=hu.left.2.2
  have hal:=h.al hT
  have htl:top.length≤3000:=by have:=h.n; have:=h.o.len; omega
  by_cases h16:kd=16
  ·have hks:=w1 (.inl h16)
   have ht:=w2 (.inl h16)
   subst h16; subst hks
   rcases Jtj hl (n+3) k (fi:=fi) (at_:=at_) ht h hu hKB with⟨o',a1,a2,a3⟩|⟨f,a,a1,a2⟩
   ·exact⟨_,_,a1,a2,top,rfl,rfl,a3⟩
   ·exact⟨_,_,a1,a2,show(6:Int)≠0 by decide,rfl,rfl,rfl,by simp only[toST]; omega,by simp only[toST]; omega⟩
  show ∃ r y,Vv (Ja (n+3)).1 (Ja (n+3)).2.1 (Ja (n+3)).2.2.1 (Ja (n+3)).2.2.2.1 (Ja (n+3)).2.2.2.2.1 (Ja (n+3)).2.2.2.2.2 ⟨kd,t,ks⟩ l (R++[top]) out=some r∧JL (JN k) (top++KN R) top ⟨kd,t,ks⟩ l 0 fi at_ (mOf out)=some y∧_
  unfold Vv
  simp only[eqI,decide_eq_true_eq]
  rw[vis]at hu ⊢
  have wkk:∀ (K:List KD) (o:List Bind),(Ja (n+3)).2.1 ⟨kd,t,ks⟩ l K o=Ja4 (Ja (n+2)).1 l ks K o:=fun K o=>JlW (x:=⟨kd,t,ks⟩) (by simp only; omega) ks 0 K o rfl (Nat.zero_le _)
  rw[if_neg h16]
  rw[if_neg h16]at hu ⊢
  by_cases h10:kd=10
  ·have hks:=w1 (.inr h10)
   subst h10; subst hks
   rw[if_pos rfl,Jtr]
   rw[if_pos (.inl rfl),visL,List.append_nil]at hu ⊢
   rcases JqO hl (fi:=fi) (at_:=at_) (B:=B) h hu hKB (by omega) with⟨v,a1,a2,a3⟩|⟨f,a,a1,a2⟩
   ·rw[a1,a2]
    exact⟨_,_,rfl,rfl,top,rfl,rfl,a3⟩
   ·rw[a1,a2]
    exact⟨_,_,rfl,rfl,show(6:Int)≠0 by decide,rfl,rfl,rfl,by simp only[toST]; omega,by simp only[toST]; omega⟩
  rw[if_neg h10]
  by_cases h4:kd=4
  ·subst h4
   rw[if_pos rfl,JvN (by omega)]
   rw[if_pos (.inr rfl),← List.append_assoc]at hu ⊢
   rcases Jp1 hl (fi:=fi) (at_:=at_) h hu.left with⟨a1,a2,a3⟩|⟨f,a,a1,a2⟩
   ·rw[a1,a2]
    simp only[Go.Proofs.Ytaofbminodhcnaa.grB,Option.bind_some,wkk]
    obtain⟨r,z,g1,g2,g3⟩:=Jfa (s:=s) hB2 ks hkF (fun y hy=>hkS y hy (n+2) (by omega) s (by omega) hsb) 3000 (Nat.le_refl _) (by omega) R _ _ _ fi at_ a3 hu (by omega)
    rw[g1]
    refine⟨r,(z.2.2.2.2.1,z.2.2.2.2.2,z.1,z.2.1,z.2.2.1,z.2.2.2.1),?_,by rw[show toST (((tokT l t,t)::top)++KN R,(tokT l t,t)::top,(0:Int),fi,at_,mOf (out++[⟨t,t⟩]))=(0,fi,at_,mOf (out++[⟨t,t⟩]),((tokT l t,t)::top)++KN R,(tokT l t,t)::top) from rfl,g2]; rfl,g3⟩
    cases r <;> rfl
   ·rw[a1,a2]
    simp only[Go.Proofs.Ytaofbminodhcnaa.grB,Option.bind_some]
    obtain⟨w,g1,g2,g3,g4,g5,g6⟩:=Jba ks hkF (toST (top++KN R,top,(7:Int),f,a,mOf out)) (by simp[toST]) (by simp only[toST]; omega) (by simp only[toST]; omega)
    simp only[toST]at g2 g3 g4 g5 g6
    rw[g1]
    exact⟨_,_,rfl,rfl,show(7:Int)≠0 by decide,g2,g3,g4,by simp only[toST]; omega,by simp only[toST]; omega⟩
  rw[if_neg h4]
  have hno:¬ (kd=10∨kd=4):=by omega
  rw[if_neg hno,List.nil_append]at hu ⊢
  by_cases h3:kd=3
  ·obtain⟨t0,t1,ps,b,hks⟩:=w3 h3
   subst h3
   have e:visL l ks=vis l ⟨16,t0,[]⟩++([t1]++(visL l ps++visL l b)):=by rw[hks]; simp[visL,Jh6,vis]
   rw[e,← List.append_assoc,← List.append_assoc,← List.append_assoc]at hu ⊢
   have hz0:nszs ks=1+(1+(nszs ps+(1+nszs b))):=by rw[hks]; simp[nszs,nsz,Jfg]
   have k0:ks.getD 0 default=⟨16,t0,[]⟩:=by rw[hks]; rfl
   have k1:ks.getD 1 default=⟨4,t1,[]⟩:=by rw[hks]; rfl
   have kl:ks.length=ps.length+3:=by rw[hks]; simp
   have hd2:ks.drop 2=ps++[⟨5,-1,b⟩]:=by rw[hks]; rfl
   have wb:TW l ⟨5,-1,b⟩:=JcY (by rw[hks]; simp) w4
   rw[TW]at wb
   have wn:TW l ⟨4,t1,[]⟩:=JcY (by rw[hks]; simp) w4
   rw[TW]at wn
   have wt:TW l ⟨16,t0,[]⟩:=JcY (by rw[hks]; simp) w4
   rw[TW]at wt
   have ht1:=wn.2.1 (.inr (.inr rfl))
   have hpS:∀ y∈ps,y∈ks:=fun y hy=>by rw[hks]; simp[hy]
   have hbF:∀ y∈b,FTn l (JN k) y:=fun y hy=>JtC hl k y (by have:=Jfo hy; omega) (JcY hy wb.2.2.2)
   have hlb:=Jdw b
   have hbS:∀ y∈b,∀ B,3000+nsz y≤B→B≤1000000→SimN l (Ja n).1 (JN k) y (vis l y) (s-1) B:=fun y hy B h3 h4=>by
    have:=Jfo hy
    exact ih y (by omega) (JcY hy wb.2.2.2) n k (by omega) (by omega) (s-1) (by omega) (by omega) B h3 h4
   obtain⟨k',rfl⟩:∃ j,k=j+1:=⟨k-1,by omega⟩
   rw[if_pos rfl,if_pos (by omega),JvH hks (by omega),k0,k1]
   rcases Jtj hl (n+2) k' (fi:=fi) (at_:=at_) (wt.2.1 (.inl rfl)) h hu.left.left.left hKB with⟨o5,a1,a2,a3⟩|⟨f,a,a1,a2⟩
   ·rw[a1,a2]
    simp only[Go.Proofs.Ytaofbminodhcnaa.grB,Option.bind_some]
    rw[if_pos (by omega)]
    rcases Jp1 hl (fi:=fi) (at_:=at_) a3 hu.left.left with⟨c1,c2,c3⟩|⟨f,a,c1,c2⟩
    ·rw[c1,c2]
     simp only[Option.bind_some]
     generalize (tokT l t1,t1)::top=top1 at c1 c2 c3 ⊢
     generalize o5++[(⟨t1,t1⟩:Bind)]=o6 at c1 c2 c3 ⊢
     have hT6:=hu.left.left.2.2
     have hal1:=c3.al hT6
     have htl1:top1.length≤3000:=by have:=c3.n; have:=c3.o.len; omega
     have hin:SI l (R++[top1]) [] o6 (T++vis l ⟨16,t0,[]⟩++[t1]):=⟨c3.o.push,by rw[JdB,List.length_append]; have:=c3.n; simp; omega⟩
     have ei:(Ja (n+3)).2.2.2.1 l (R++[top1]) o6 ⟨3,t,ks⟩=Go.Proofs.Ytaofbminodhcnaa.grB (Ja4 (Ja (n+1)).1 l ps (R++[top1]++[[]]) o6) (fun z=>Go.Proofs.Ytaofbminodhcnaa.grB (Ja4 (Ja n).1 l b z.1 z.2) (fun r1=>if 0<r1.1.length then some (.ok (List.dropLast r1.1,r1.2)) else none) (fun e1=>some (.er e1))) (fun e1=>some (.er e1)):=by
      show Xd (Ja (n+2)).1 (Ja (n+2)).2.1 (Ja (n+2)).2.2.1 (Ja (n+2)).2.2.2.1 (Ja (n+2)).2.2.2.2.1 (Ja (n+2)).2.2.2.2.2 l (R++[top1]) o6 ⟨3,t,ks⟩=_
      unfold Xd
      rw[if_pos (by simp; omega)]
      have e2:(Ja (n+2)).2.2.2.2.2 ⟨3,t,ks⟩ l (R++[top1]++[[]]) o6=Go.Proofs.Ytaofbminodhcnaa.grB (Ja4 (Ja (n+1)).1 l ps (R++[top1]++[[]]) o6) (fun z=>Ja4 (Ja n).1 l b z.1 z.2) (fun e=>some (.er e)):=by
       have hb2:∀ (K:List KD) (o:List Bind),(Ja (n+1)).2.1 ⟨5,-1,b⟩ l K o=Ja4 (Ja n).1 l b K o:=fun K o=>JlW (x:=⟨5,-1,b⟩) (by simp only; omega) b 0 K o rfl (Nat.zero_le _)
       have:=JvY (qk:=(Ja (n+1)).2.1) (q:=(Ja (n+1)).1) (l:=l) (x:=⟨3,t,ks⟩) (by simp only; omega) ps 2 (R++[top1]++[[]]) o6 hd2
       simp only[hb2]at this
       exact this
      rw[e2]
      cases Ja4 (Ja (n+1)).1 l ps (R++[top1]++[[]]) o6 with
      | none=>rfl
      | some r0 =>
       cases r0 with
       | er e=>rfl
       | ok z =>
        simp only[Go.Proofs.Ytaofbminodhcnaa.grB]
     rw[ei]
     obtain⟨r,z,g1,g2,g3⟩:=Jfa (s:=s-1) hB2 ps (fun y hy=>hkF y (hpS y hy)) (fun y hy=>hkS y (hpS y hy) (n+1) (by omega) (s-1) (by omega) (by omega)) 3000 (Nat.le_refl _) (by omega) (R++[top1]) [] o6 _ fi at_ hin hu.left (by simp; omega)
     rw[List.nil_append,JdB]at g2
     rw[g1,g2]
     cases r with
     | ok o =>
      obtain⟨top',e1,e2,e3⟩:=g3
      simp only[Go.Proofs.Ytaofbminodhcnaa.grB,e1,e2,Option.bind_some]
      obtain⟨r,z,i1,i2,i3⟩:=Jfa (s:=s-1) hB2 b hbF hbS 3000 (Nat.le_refl _) (by omega) (R++[top1]) top' o.2 _ fi at_ e3 hu (by simp; omega)
      rw[i1,i2]
      cases r with
      | ok o' =>
       obtain⟨top'',j1,j2,j3⟩:=i3
       simp only[Go.Proofs.Ytaofbminodhcnaa.grB,j1,j2,Option.bind_some]
       rw[if_pos (by simp)]
       refine⟨_,_,rfl,rfl,top1,by simp,rfl,?_⟩
       exact SI.mono_out c3 j3 (by simp)
      | er e =>
       obtain⟨j0,j1,j2,j3,j4,j5⟩:=i3
       simp only[Go.Proofs.Ytaofbminodhcnaa.grB,Option.bind_some]
       exact⟨_,_,rfl,rfl,j0,j1,j2,j3,by simp only[toST]; omega,by simp only[toST]; omega⟩
     | er e =>
      obtain⟨e0,e1,e2,e3,e4,e5⟩:=g3
      simp only[Go.Proofs.Ytaofbminodhcnaa.grB,Option.bind_some]
      obtain⟨w,f1,f2,f3,f4,f5,f6⟩:=Jba b hbF z (by rw[e1]; exact e0) (by omega) (by omega)
      rw[f1]
      exact⟨_,_,rfl,rfl,e0,f2.trans e1,f3.trans e2,f4.trans e3,by simp only[toST]; omega,by simp only[toST]; omega⟩
    ·rw[c1,c2]
     simp only[Option.bind_some]
     obtain⟨w,f1,f2,f3,f4,f5,f6⟩:=Jba ps (fun y hy=>hkF y (hpS y hy)) (7,f,a,mOf o5,top++KN R,[]) (by simp) (by simp only; omega) (by simp only[List.length_nil]; omega)
     simp only[List.length_nil]at f2 f3 f4 f5 f6
     rw[f1,Option.bind_some]
     obtain⟨w2,d1,d2,d3,d4,d5,d6⟩:=Jba b hbF w (by rw[f2]; decide) (by omega) (by omega)
     rw[d1,Option.bind_some]
     exact⟨_,_,rfl,rfl,show(7:Int)≠0 by decide,d2.trans f2,d3.trans f3,d4.trans f4,by simp only[toST]; omega,by simp only[toST]; omega⟩
   ·rw[a1,a2]
    simp only[Go.Proofs.Ytaofbminodhcnaa.grB,Option.bind_some]
    obtain⟨al',i',c1,c2,c3⟩:=Jkt (m:=mOf out) (fi:=f) (at_:=a) hl ht1 (show(6:Int)≠0 by decide) (show(top++KN R).length≤BL by omega) (show top.length≤BL by omega)
    rw[c1,Option.bind_some]
    simp only
    obtain⟨w,f1,f2,f3,f4,f5,f6⟩:=Jba ps (fun y hy=>hkF y (hpS y hy)) (6,f,a,mOf out,al',[]) (by simp) (by simp only; omega) (by simp only[List.length_nil]; omega)
    simp only[List.length_nil]at f2 f3 f4 f5 f6
    rw[f1,Option.bind_some]
    obtain⟨w2,d1,d2,d3,d4,d5,d6⟩:=Jba b hbF w (by rw[f2]; decide) (by omega) (by omega)
    rw[d1,Option.bind_some]
    exact⟨_,_,rfl,rfl,show(6:Int)≠0 by decide,d2.trans f2,d3.trans f3,d4.trans f4,by simp only[toST]; omega,by simp only[toST]; omega⟩
  rw[if_neg h3]
  by_cases h5:kd=5
  ·subst h5
   rw[if_pos rfl,JvQ (by omega)]
   have hin:SI l (R++[top]) [] out T:=⟨h.o.push,by rw[JdB,List.length_append]; have:=h.n; simp; omega⟩
   obtain⟨r,z,g1,g2,g3⟩:=Jfa (s:=s-1) hB2 ks hkF (fun y hy=>hkS y hy n (Nat.le_refl _) (s-1) (by omega) (by omega)) 3000 (Nat.le_refl _) (by omega) (R++[top]) [] out T fi at_ hin hu (by simp; omega)
   rw[List.nil_append,JdB]at g2
   rw[g2]
   have ei:(Ja (n+3)).2.2.1 l (R++[top]) out ⟨5,t,ks⟩=Go.Proofs.Ytaofbminodhcnaa.grB (Ja4 (Ja n).1 l ks (R++[top]++[[]]) out) (fun r1=>if 0<r1.1.length then some (.ok (List.dropLast r1.1,r1.2)) else none) (fun e1=>some (.er e1)):=by
    show X1 (Ja (n+2)).1 (Ja (n+2)).2.1 (Ja (n+2)).2.2.1 (Ja (n+2)).2.2.2.1 (Ja (n+2)).2.2.2.2.1 (Ja (n+2)).2.2.2.2.2 l (R++[top]) out ⟨5,t,ks⟩=_
    unfold X1
    rw[if_pos (by simp; omega)]
    have e2:(Ja (n+2)).2.2.2.2.1 ⟨5,t,ks⟩ l (R++[top]++[[]]) out=Go.Proofs.Ytaofbminodhcnaa.grB (Ja4 (Ja n).1 l ks (R++[top]++[[]]) out) (fun r1=>some (.ok (r1.1,r1.2))) (fun e1=>some (.er e1)):=by
     rw[← JlW (x:=⟨5,t,ks⟩) (by simp only; omega) ks 0 (R++[top]++[[]]) out rfl (Nat.zero_le _)]
     rfl
    rw[e2]
    cases Ja4 (Ja n).1 l ks (R++[top]++[[]]) out with
    | none=>rfl
    | some r0=>cases r0 <;> rfl
   rw[ei,g1]
   cases r with
   | ok o =>
    obtain⟨top',e1,e2,e3⟩:=g3
    simp only[Go.Proofs.Ytaofbminodhcnaa.grB,e1,e2,Option.bind_some]
    rw[if_pos (by simp)]
    refine⟨_,_,rfl,rfl,top,by simp,rfl,?_⟩
    exact SI.mono_out h e3 (by simp)
   | er e =>
    obtain⟨e0,e1,e2,e3,e4,e5⟩:=g3
    simp only[Go.Proofs.Ytaofbminodhcnaa.grB,Option.bind_some]
    exact⟨_,_,rfl,rfl,e0,e1,e2,e3,by simp only[toST]; omega,by simp only[toST]; omega⟩
  rw[if_neg h5,JvB (by omega) h16 h10 h4 h3 h5]
  obtain⟨r,z,g1,g2,g3⟩:=Jfa (s:=s) hB2 ks hkF (fun y hy=>hkS y hy (n+2) (by omega) s (by omega) hsb) 3000 (Nat.le_refl _) (by omega) R top out T fi at_ h hu (by omega)
  rw[wkk,g1,g2]
  refine⟨r,(z.2.2.2.2.1,z.2.2.2.2.2,z.1,z.2.1,z.2.2.1,z.2.2.2.1),?_,rfl,g3⟩
  cases r <;> rfl
end
end Go.Proofs.Ytaofbminodhcnaa
