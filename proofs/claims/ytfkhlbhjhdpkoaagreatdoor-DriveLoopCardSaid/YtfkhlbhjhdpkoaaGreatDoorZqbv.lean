/- DriveLoop: a file that includes itself. Plain. -/
import Derived.Test.YtfkhlbhjhdpkoaaGreatDoorZqbu
set_option linter.unusedVariables false
set_option linter.unusedSimpArgs false
set_option maxHeartbeats 4000000
namespace Go.Proofs.YtfkhlbhjhdpkoaaGreatDoor
open Go.RowKit
set_option maxHeartbeats 1000000
def sufL:List UInt8:=[35,105,110,99,108,117,100,101,32,34,109,34,10]
def fsL(s:List UInt8):List Source:=[⟨[109],s++10::sufL⟩]
theorem JvN:∀ (n:Nat) (l:List UInt8) (i a st:Nat) (f:Bool),(lxF n l (i+a) st f).1.map (·.pos)=(lxF n l i st f).1.map (fun r=>r.pos+a)
 | 0,_,_,_,_,_=>rfl
 | n+1,l,i,a,st,f=>by
  rw[ZK,ZK]
  split
  ·rfl
  split
  ·rfl
  split
  ·rfl
  rename_i kd k hp
  have ih:=JvN n ((l.drop (skip l).1).drop k) (i+(skip l).1+k) a (Jee st ((l.drop (skip l).1).take k) (f || (skip l).2.1)) false
  have e:i+a+(skip l).1=i+(skip l).1+a:=by omega
  have e2:i+(skip l).1+a+k=i+(skip l).1+k+a:=by omega
  rw[List.map_cons,List.map_cons,e,e2,ih]
theorem JAp:∀ (n:Nat) (l:List UInt8) (i st:Nat) (f:Bool),∀ t∈(lxF n l i st f).1,∀ c∈t.txt,c∈l
 | 0,_,_,_,_,t,h=>by simp[lxF]at h
 | n+1,l,i,st,f,t,h=>by
  intro c hc
  rw[ZK]at h
  split at h
  ·simp at h
  split at h
  ·simp at h
  split at h
  ·simp at h
  rcases List.mem_cons.1 h with rfl | h
  ·exact List.mem_of_mem_drop (List.mem_of_mem_take hc)
  have:=JAp n _ _ _ _ t h c hc
  exact List.mem_of_mem_drop (List.mem_of_mem_drop this)
theorem Jlw:∀ (l:List UInt8) (k i:Nat),∀ p∈sp k i l,p.1∈l
 | [],k,_,p,h=>by simp[sp]at h
 | c::r,k+1,i,p,h=>List.mem_cons_of_mem _ (Jlw r k (i+1) p h)
 | c::r,0,i,p,h=>by
  simp only[sp]at h
  split at h
  ·exact List.mem_cons_of_mem _ (Jlw r _ (i+1) p h)
  split at h
  ·exact List.mem_cons_of_mem _ (Jlw r _ (i+1) p h)
  rcases List.mem_cons.1 h with rfl | h
  ·simp
  exact List.mem_cons_of_mem _ (Jlw r _ (i+1) p h)
theorem JBa(s:List UInt8)(h0:(Kt 0 s).2.Err=0):∀ t∈(Kt 0 s).1,∀ c∈t.Text,c∈s:=by
 intro t ht c hc
 have hr:=(Jic (Jh0 h0)).2
 have:keyT t∈(raws s).1.map keyR:=by rw[hr]; exact List.mem_map_of_mem ht
 obtain⟨x,hx,e⟩:=List.mem_map.1 this
 have e2:t.Text=x.txt:=(congrArg (fun y:Int×List UInt8×Bool=>y.2.1) e).symm
 rw[e2]at hc
 have hm:=JAp _ _ _ _ _ x hx c hc
 unfold Jr spAt at hm
 rw[List.drop_zero]at hm
 obtain⟨p,hp,rfl⟩:=List.mem_map.1 hm
 exact Jlw s 0 0 p hp
theorem JEg:lxK (lxF (sufL.length+2) (10::sufL) 0 0 true)=(incK [109],true):=by decide +kernel
theorem JEA:(lxF (sufL.length+2) (10::sufL) 0 0 true).1.map (·.pos)=[1,2,10]:=by decide +kernel
def Jui(s:List UInt8)(t:Token):Prop:=∃ r,t=tokOf 0 (s++10::sufL) r
theorem JzY(s:List UInt8)(hs:shut s)(hl:s.length≤1000)(h0:(Kt 0 s).2.Err=0):
  ∃ A a b c,Kt 0 (s++10::sufL)=(A++[a,b,c],⟨0,-1,0⟩)∧A.map keyT=(Kt 0 s).1.map keyT∧(keyT a=(5,[35],true)∧keyT b=(1,incT,false)∧keyT c=(4,34::([109]++[34]),false))∧(s.length:Int)<c.At∧c.File=0∧∀ t∈A,Jui s t:=by
 obtain⟨P,h1,h2⟩:=JpG (10::sufL) rfl s 0 0 (Nat.zero_le _) hs
 have hz:∃ z,JhU z∧Jr s=P.map (·.1)++z:=by
  unfold Jr spAt
  rw[List.drop_zero]
  rcases h2 with h2 | h2
  ·exact⟨[],.inl rfl,by rw[h2,List.append_nil]⟩
  exact⟨[13],.inr rfl,by rw[h2]; simp⟩
 obtain⟨z,hz,hzt⟩:=hz
 have hsuf:=Jy8 [] (10::sufL) (0+s.length) (by decide)
 rw[List.append_nil]at hsuf
 rw[hsuf]at h1
 have h1:sp 0 0 (s++10::sufL)=P++(10::sufL).zipIdx s.length:=by
  rw[h1]; simp[sp]
 have ht:Jr (s++10::sufL)=P.map (·.1)++10::sufL:=by
  unfold Jr spAt
  rw[List.drop_zero,h1,List.map_append]
  congr 1
 have hp:JX (s++10::sufL)=P.map (·.2)++([s.length,s.length+1,s.length+1+1,s.length+1+1+1,s.length+1+1+1+1,s.length+1+1+1+1+1,s.length+1+1+1+1+1+1,s.length+1+1+1+1+1+1+1,s.length+1+1+1+1+1+1+1+1,s.length+1+1+1+1+1+1+1+1+1,s.length+1+1+1+1+1+1+1+1+1+1,s.length+1+1+1+1+1+1+1+1+1+1+1,s.length+1+1+1+1+1+1+1+1+1+1+1+1,s.length+1+1+1+1+1+1+1+1+1+1+1+1+1]++[(s++10::sufL).length]):=by
  unfold JX spAt
  rw[List.drop_zero,h1,List.map_append,List.append_assoc]
  congr 1
 have hr:=Jh0 h0
 have hr0:=hr
 unfold raws at hr
 rw[hzt]at hr
 obtain⟨b1,b2⟩:=Jic hr
 have e3:=JzX hz sufL ((P.map (·.1)++z).length+1) (P.map (·.1)) 0 0 true (by omega) b1 ((P.map (·.1)++10::sufL).length+1) (by omega)
 generalize hC:lxF (sufL.length+2) (10::sufL) (0+(P.map (·.1)).length) 0 true=C at e3
 have hCk:lxK C=(incK [109],true):=by rw[← hC,JzB _ _ _ 0]; exact JEg
 have hCp:C.1.map (·.pos)=[1+P.length,2+P.length,10+P.length]:=by
  rw[← hC,JvN,List.length_map]
  have:=congrArg (List.map (· + P.length)) JEA
  rw[List.map_map]at this
  exact this
 obtain⟨c1,c2⟩:=Jic hCk
 generalize hA:(lxF ((P.map (·.1)++z).length+1) (P.map (·.1)++z) 0 0 true).1=R at e3 b2
 obtain⟨C1,C2⟩:=C
 simp only at c1 c2 hCp e3
 subst c1
 unfold incK at c2
 obtain⟨ra,C,rfl,k1,c2⟩:=List.map_eq_cons_iff.1 c2
 obtain⟨rb,C,rfl,k2,c2⟩:=List.map_eq_cons_iff.1 c2
 obtain⟨rc,C,rfl,k3,c2⟩:=List.map_eq_cons_iff.1 c2
 obtain rfl:=List.map_eq_nil_iff.1 c2
 simp only[List.map_cons,List.map_nil,List.cons.injEq,and_true]at hCp
 refine⟨R.map (tokOf 0 (s++10::sufL)),tokOf 0 (s++10::sufL) ra,tokOf 0 (s++10::sufL) rb,tokOf 0 (s++10::sufL) rc,?_,?_,⟨k1,k2,k3⟩,?_,rfl,?_⟩
 ·have hraw:raws (s++10::sufL)=(R++[ra,rb,rc],none):=by
   unfold raws
   rw[ht,e3]
  unfold Kt
  rw[if_neg (by simp[sufL]; omega),hraw]
  simp only[List.map_append,List.map_cons,List.map_nil]
 ·rw[← b2,List.map_map]; rfl
 ·show(s.length:Int)<(((JX (s++10::sufL)).getD rc.pos 0:Nat):Int)
  rw[hp,hCp.2.2,List.getD_eq_getElem?_getD,List.getElem?_append_right (by rw[List.length_map]; omega),List.length_map,show 10+P.length-P.length=10 by omega]
  show(s.length:Int)<((s.length+1+1+1+1+1+1+1+1+1+1:Nat):Int)
  omega
 intro t hm
 obtain⟨r,_,rfl⟩:=List.mem_map.1 hm
 exact⟨r,rfl⟩
theorem JtP(s:List UInt8)(hl:s.length≤1000)(t:Token)(ht:Jui s t):∃ g,∀ f,JF t [] (fsL s) f 1500=some g:=by
 obtain⟨r,rfl⟩:=ht
 by_cases h1:(tokOf 0 (s++10::sufL) r).Text=[95,95,76,73,78,69,95,95]
 ·have hln:(((tokOf 0 (s++10::sufL) r).Line:Int))≤5000∧0≤(tokOf 0 (s++10::sufL) r).Line:=by
   show((Jbb _ _:Nat):Int)≤5000∧0≤((Jbb _ _:Nat):Int)
   unfold Jbb
   have a:=List.length_filter_le (fun x:UInt8=>decide (x=10)) ((s++10::sufL).take ((JX (s++10::sufL)).getD r.pos 0))
   have b:=List.length_take_le ((JX (s++10::sufL)).getD r.pos 0) (s++10::sufL)
   have b2:((s++10::sufL).take ((JX (s++10::sufL)).getD r.pos 0)).length≤(s++10::sufL).length:=by rw[List.length_take]; omega
   have c:(s++10::sufL).length=s.length+14:=by simp[sufL]
   omega
  refine⟨(2,Lib.itoa (tokOf 0 (s++10::sufL) r).Line,3,true),fun f=>?_⟩
  unfold JF
  rw[if_pos (show eqS (tokOf 0 (s++10::sufL) r).Text [95,95,76,73,78,69,95,95]=true from decide_eq_true h1)]
  unfold JbL
  rw[if_pos (by omega)]
  rfl
 by_cases h2:(tokOf 0 (s++10::sufL) r).Text=[95,95,70,73,76,69,95,95]
 ·refine⟨(4,[34,109,34],3,true),fun f=>?_⟩
  unfold JF
  rw[if_neg (show ¬ eqS (tokOf 0 (s++10::sufL) r).Text [95,95,76,73,78,69,95,95]=true from fun q=>h1 (of_decide_eq_true q)),if_pos (show eqS (tokOf 0 (s++10::sufL) r).Text [95,95,70,73,76,69,95,95]=true from decide_eq_true h2)]
  rfl
 exact⟨_,fun f=>Jy4 _ [] (fsL s) f 1500 h1 h2⟩
theorem Jzl(s:List UInt8)(hl:s.length≤1000):Jbo (fsL s)=some ⟨0,-1,0⟩:=by
 refine JBu (fsL s) (by simp[fsL]) (fun j hj=>?_)
 have:j=0:=by simp only[fsL,List.length_cons,List.length_nil]at hj; omega
 subst this
 refine⟨JC2,?_,fun h=>absurd h (by omega)⟩
 show(s++10::sufL).length≤3000
 simp[sufL]; omega
theorem Jz9:JbF [109] [109]=some [109]:=by decide +kernel
theorem JxA(s:List UInt8):Xc (fsL s) 0 [109] true=some ((0:Nat):Int):=by
 unfold Xc
 rw[if_neg (by decide)]
 show ZE (fsL s) 0 [109] true false=_
 simp only[ZE,Bool.false_eq_true,if_false,Bool.not_true]
 rw[if_pos (by simp[fsL])]
 rw[show((fsL s).getD (0:Int).toNat default).Path=[109] from rfl,Jz9]
 have hf:Jcp (fsL s) [109]=some 0:=by
  unfold Jcp Ks
  rw[J4]; rfl
 simp only[Option.bind_some,hf]
 rfl
theorem Jyy(A:List Token)(hA:∀ t r,A=t::r→t.First=true){a b c:Token}(ha:a.First=true)(hb:b.First=false)(hc:c.First=false):VJ (A++[a,b,c])=VJ A++[[a,b,c]]:=by
 rw[JyF A hA a ha [b,c]]
 simp[Xq,hb,hc]
structure LoopAt (s:List UInt8) (A:List Token) (a b c:Token):Prop where
 toks:Kt 0 (s++10::sufL)=(A++[a,b,c],⟨0,-1,0⟩)
 first:∀ t r,A=t::r→t.First=true
 few:A.length≤200
 ka:a.Text=[35]∧a.Kind=5∧a.First=true
 kb:b.Text=incT∧b.First=false
 kc:c.Text=34::([109]++[34])∧c.Kind=4∧c.First=false∧c.File=0
 plain:∀ t∈A,t.Text≠[35]
 made:∀ t∈A,Jui s t
theorem Jrk{s:List UInt8}{A:List Token}{a b c:Token}(H:LoopAt s A a b c)(hl:s.length≤1000)(q1:Q1)(q2 q3:Q2)(F D:Int)(rd:List Int)(d:Int)(out:List Token)(hrd:rd.length≤100)(hF:200≤F∧F≤4000)(ho:out.length≤1300)
  (h:∀ out',out'.length=out.length+A.length→∃ e:Int×List Macro×List Int×List Int×Int×List Token,q2 [a,b,c] (fsL s) (F-(A.length:Int)) 1500 D [] [] (rd++[0]) d out'=some (.er (10,0,c.At,e))) :
  ∃ e:Int×List Macro×List Int×List Int×Int×List Token,Vl q1 q2 q3 0 (fsL s) F 1500 D [] [] rd d out=some (.er (10,0,c.At,e)):=by
 obtain⟨gv,hgv⟩:∃ gv:Token→Int×List UInt8×Int×Bool,∀ t∈A,∀ f,JF t [] (fsL s) f 1500=some (gv t):=by
  classical
  refine⟨fun t=>if h:Jui s t then Classical.choose (JtP s hl t h) else default,fun t ht f=>?_⟩
  simp only[dif_pos (H.made t ht)]
  exact Classical.choose_spec (JtP s hl t (H.made t ht)) f
 have hfew:=H.few
 have hfl:=JBn [] (fsL s) 1500 D d [] (rd++[0]) out gv A (by omega) F (by omega) (by omega) (fun t ht=>⟨hgv t ht,JAm [] (by simp) _ (by simp),by obtain⟨r,e⟩:=H.made t ht; rw[e]; rfl⟩)
 obtain⟨e,hq⟩:=h (out++A.map fun t=>gvT t (gv t)) (by simp)
 refine⟨e,?_⟩
 have hfile:=JC7 q1 q2 q3 (fsL s) F 1500 D [] [] rd d out 0 (by simp[fsL]) (ts:=A++[a,b,c]) (by exact H.toks) (by show(s++10::sufL).length≤3000; simp[sufL]; omega) (by omega)
 rw[Jyy A H.first H.ka.2.2 H.kb.2 H.kc.2.2.1]at hfile
 obtain⟨l1,l2⟩:=JBe A H.first
 have hlen:=JyH A
 rw[show((0:Nat):Int)=0 from rfl]at hfile
 rw[hfile]
 generalize hLs:VJ A++[[a,b,c]]=lines
 have i0:lines.length=(VJ A).length+1:=by rw[← hLs]; simp
 have g1:lines.getD (0+(VJ A).length) default=[a,b,c]:=by rw[← hLs]; exact JDl (VJ A) [] _ (by omega)
 have g2:(lines.drop 0).take (VJ A).length=VJ A:=by rw[← hLs]; simp
 have s2:=Jnv q2 (fsL s) 1500 D lines 0 F [] [] (rd++[0]) d [] out (by omega) (JAH []) (VJ A).length 0 [] (by omega)
  (by rw[g2]; exact fun L hL=>⟨(l2 L hL).1,H.plain _ (l2 L hL).2⟩) (by rw[g2,l1]; simp only[List.length_nil]; omega)
 rw[g2,l1]at s2
 rw[show((0:Nat):Int)=0 from rfl]at s2
 rw[s2]
 simp only[if_true,List.nil_append]
 have s0:=JEJ q2 (fsL s) 1500 D lines 0 (0+(VJ A).length) F [] [] (rd++[0]) d [] A out (by omega) (by omega) g1 (by simp) H.ka.1 H.ka.2.1 hfl
  (JBN (fsL s) _ 1500 D [] [] (rd++[0]) d [] _ 0 [a,b,c] incT (by simp) H.kb.1) (JAH []) hq
 rw[J4,s0]
theorem Jr0{s:List UInt8}{A:List Token}{a b c:Token}(H:LoopAt s A a b c)(hl:s.length≤1000)(L:Nat)(D:Nat)(hD:D≤6):∀ (k d:Nat) (F:Int) (rd:List Int) (out:List Token),d+k=D→(F=4000-(d:Int) * (A.length:Int))→rd.length=d→out.length=d * A.length →
  ∃ e:Int×List Macro×List Int×List Int×Int×List Token,(Jo (L+4+3 * k)).1 0 (fsL s) F 1500 (D:Int) [] [] rd (d:Int) out=some (.er (10,0,c.At,e))
 | 0,d,F,rd,out,h,hF,hr,ho=>by
  have hfew:=H.few
  have hm:d * A.length≤6 * 200:=Nat.mul_le_mul (by omega) hfew
  have hmi:((d * A.length:Nat):Int)=(d:Int) * (A.length:Int):=by simp
  rw[← hmi]at hF
  rw[show L+4+3 * 0=(L+3)+1 by omega,Ju1]
  refine Jrk H hl _ _ _ F D rd d out (by omega) (by omega) (by omega) (fun out' ho'=>?_)
  have:=JBE L (fsL s) (F-(A.length:Int)) 1500 D [] [] (rd++[0]) d out' a b c H.kb.1 H.kc.2.1 H.kc.1 (by simp) (k:=0) (by rw[H.kc.2.2.2]; exact JxA s) (by simp) (by simp) (by omega)
  rw[H.kc.2.2.2]at this
  exact⟨_,this⟩
 | k+1,d,F,rd,out,h,hF,hr,ho=>by
  have hfew:=H.few
  have hm:d * A.length≤6 * 200:=Nat.mul_le_mul (by omega) hfew
  have hmi:((d * A.length:Nat):Int)=(d:Int) * (A.length:Int):=by simp
  rw[← hmi]at hF
  rw[show L+4+3 * (k+1)=(L+4+3 * k+2)+1 by omega,Ju1]
  refine Jrk H hl _ _ _ F D rd d out (by omega) (by omega) (by omega) (fun out' ho'=>?_)
  have hs:(d+1) * A.length=d * A.length+A.length:=Nat.succ_mul d A.length
  obtain⟨e,hgo⟩:=Jr0 H hl L D hD k (d+1) (F-(A.length:Int)) (rd++[0]) out' (by omega) (by
   have:(((d+1) * A.length:Nat):Int)=((d+1:Nat):Int) * (A.length:Int):=by simp
   rw[← this,hs]; omega) (by simp[hr]) (by omega)
  rw[show L+4+3 * k=(L+3+3 * k)+1 by omega]at hgo
  refine⟨e,?_⟩
  have:=JEl (L+3+3 * k) (fsL s) (F-(A.length:Int)) 1500 D [] [] (rd++[0]) d out' a b c H.kb.1 H.kc.2.1 H.kc.1 (by simp) (k:=0) (by rw[H.kc.2.2.2]; exact JxA s) (by simp) (by simp) (by omega) hgo
  rw[show L+4+3 * k+2=L+3+3 * k+3 by omega]
  exact this
theorem Jub{s:List UInt8}{A:List Token}{a b c:Token}(H:LoopAt s A a b c)(hl:s.length≤1000)(D:Nat)(hD:D≤6):Jdk (fsL s) 0 [] ⟨4000,1500,(D:Int)⟩=some ([],[],[],10,0,c.At):=by
 obtain⟨L,hL⟩:∃ L,bigF=L+4+3 * D:=⟨bigF-4-3 * D,by have:=JDN; omega⟩
 obtain⟨e,he⟩:=Jr0 H hl L D hD D 0 4000 [] [] (by omega) (by simp) rfl (by simp)
 rw[← hL]at he
 exact JEL (fsL s) 0 (by simp[fsL]) (Jzl s hl) D (by omega) he
theorem JDs(s:List UInt8)(hs:shut s)(hl:s.length≤1000)(h0:(Kt 0 s).2.Err=0)(hn:(Kt 0 s).1.length≤200)(h35:∀ c∈s,c≠35):∃ A a b c,LoopAt s A a b c∧(s.length:Int)<c.At:=by
 obtain⟨A,a,b,c,t1,t2,⟨k1,k2,k3⟩,t3,t4,t5⟩:=JzY s hs hl h0
 have tx:∀ {t:Token} {x:Int×List UInt8×Bool},keyT t=x→t.Text=x.2.1∧t.Kind=x.1∧t.First=x.2.2:=fun h=>by rw[← h]; exact⟨rfl,rfl,rfl⟩
 obtain⟨n1,n2,n3⟩:=JyG s h0 hl
 refine⟨A,a,b,c,⟨t1,fun t r e=>?_,?_,⟨(tx k1).1,(tx k1).2.1,(tx k1).2.2⟩,⟨(tx k2).1,(tx k2).2.2⟩,⟨(tx k3).1,(tx k3).2.1,(tx k3).2.2,t4⟩,fun t ht=>?_,t5⟩,t3⟩
 ·exact n3 (keyT t) (r.map keyT) (by rw[← t2,e]; rfl)
 ·have:=congrArg List.length t2
  rw[List.length_map,List.length_map]at this
  omega
 have:keyT t∈(Kt 0 s).1.map keyT:=by rw[← t2]; exact List.mem_map_of_mem ht
 obtain⟨x,hx,e⟩:=List.mem_map.1 this
 have e2:t.Text=x.Text:=(congrArg (fun y:Int×List UInt8×Bool=>y.2.1) e).symm
 rw[e2]
 intro q
 exact h35 35 (JBa s h0 x hx 35 (by rw[q]; simp)) rfl
theorem Jjv(s:List UInt8)(D:Nat)(hD:D≤6)(hs:shut s)(hl:s.length≤1000)(h0:(Kt 0 s).2.Err=0)(hn:(Kt 0 s).1.length≤200):∀ k j:Nat,j+k=s.length→(∀ c∈s.take j,c≠35) →
  Jv (VQ s (D:Int)) ((s.length:Int),(j:Int))=some true
 | 0,j,h,h35=>by
  obtain rfl:j=s.length:=by omega
  rw[List.take_length]at h35
  obtain⟨A,a,b,c,H,hat⟩:=JDs s hs hl h0 hn h35
  have hr:Jdk [(⟨[109],s++[10,35,105,110,99,108,117,100,101,32,34,109,34,10]⟩:Source)] 0 [] ⟨4000,1500,(D:Int)⟩=some ([],[],[],10,0,c.At):=Jub H hl D hD
  rw[J4]
  simp only[VQ,ltI,decide_eq_true_eq]
  rw[if_neg (by omega),if_pos (by omega),hr]
  simp only[Option.bind_some,eqI,decide_true,if_true,VS,inrO,decide_eq_true hat]
  rfl
 | k+1,j,h,h35=>by
  rw[J4]
  simp only[VQ,ltI,decide_eq_true_eq,Int.toNat_natCast,eqI]
  rw[if_pos (by omega),if_pos (by omega)]
  by_cases c1:((s.getD j 0).toNat:Int)=35
  ·rw[if_pos c1]; rfl
  rw[if_neg c1,wN1 j (by omega)]
  refine Jjv s D hD hs hl h0 hn k (j+1) (by omega) (fun c hc=>?_)
  rw[List.take_succ_eq_append_getElem (by omega)]at hc
  rcases List.mem_append.1 hc with hc | hc
  ·exact h35 c hc
  have e:c=s.getD j 0:=by
   rw[List.mem_singleton.1 hc,List.getD_eq_getElem?_getD,List.getElem?_eq_getElem (by omega)]; rfl
  rw[e]
  intro q
  exact c1 (by rw[q]; rfl)
theorem Jwz(s:List UInt8)(n:Int)(hl:s.length≤281474976710656):JaX s n=some true:=by
 unfold JaX
 rw[JEz]
 simp only[Option.bind_some,Bool.not_true,Bool.false_eq_true,if_false,ltI,decide_eq_true_eq]
 by_cases c1:n<0
 ·rw[if_pos c1]; rfl
 rw[if_neg c1]
 by_cases c2:(6:Int)<n
 ·rw[if_pos c2]; rfl
 rw[if_neg c2]
 obtain⟨b,hb⟩:∃ b,X1 s=some b:=by
  unfold X1
  by_cases g0:(0:Int)<(s.length:Int)
  ·have w1:IntKind.i64.wrap ((s.length:Int)-1)=((s.length-1:Nat):Int):=wNm s.length (by omega)
   simp only[w1,Int.toNat_natCast,ltI,decide_eq_true_eq]
   rw[if_pos g0,if_pos (by omega)]
   split
   ·exact⟨_,rfl⟩
   split
   ·rename_i g1
    have w2:IntKind.i64.wrap ((s.length:Int)-2)=((s.length-2:Nat):Int):=by rw[wr _ (by omega)]; omega
    rw[w2,if_pos (by omega)]
    split
    ·rw[if_pos (by omega)]; exact⟨_,rfl⟩
    exact⟨_,rfl⟩
   exact⟨_,rfl⟩
  simp only[ltI,decide_eq_true_eq]
  rw[if_neg g0,if_neg (by omega)]
  exact⟨_,rfl⟩
 rw[hb]
 simp only[Option.bind_some]
 cases b
 ·rw[if_neg Bool.false_ne_true]
  by_cases c3:(1000:Int)<(s.length:Int)
  ·rw[decide_eq_true c3]; rfl
  rw[decide_eq_false c3]
  simp only[Va,Bool.false_eq_true,if_false,JwZ 0 s,Option.bind_some]
  by_cases h0:(Kt 0 s).2.Err=0
  ·rw[if_neg (JEb h0)]
   by_cases c4:(200:Int)<((Kt 0 s).1.length:Int)
   ·rw[show ltI 200 ((Kt 0 s).1.length:Int)=true from decide_eq_true c4]; rfl
   rw[show ltI 200 ((Kt 0 s).1.length:Int)=false from decide_eq_false c4]
   simp only[XU,Bool.false_eq_true,if_false]
   obtain⟨m,rfl⟩:∃ m:Nat,n=(m:Int):=⟨n.toNat,by omega⟩
   exact Jjv s m (by omega) (JzZ s (by omega) hb rfl) (by omega) h0 (by omega) s.length 0 (by omega) (by simp)
  rw[if_pos (JEw h0)]; rfl
 rfl
theorem Jt2(s:List UInt8)(n:Int)(hn:-9223372036854775808≤n∧n≤9223372036854775807)(hl:s.length≤281474976710656):JaX s n=some true:=Jwz s n hl
end Go.Proofs.YtfkhlbhjhdpkoaaGreatDoor
