/- DriveOnce answers true. Plain. -/
import Derived.Test.YtfkhlbhjhdpkoaaGreatDoorZobt
set_option linter.unusedVariables false
set_option linter.unusedSimpArgs false
set_option maxHeartbeats 4000000
namespace Go.Proofs.YtfkhlbhjhdpkoaaGreatDoor
open Go.RowKit
set_option maxHeartbeats 1000000
theorem JFf{x y z:Int×List UInt8×Bool}(hy:y.2.2=false)(hz:z.2.2=false){ks:List YM}{ts:List Token}(h:ts.map keyT=[x,y,z]++ks)(hk:∀ t r,ks=t::r→t.2.2=true):
  ∃ a b c R,ts=a::b::c::R∧JD ts=[a,b,c]::JD R∧R.map keyT=ks∧(a.Text=x.2.1∧a.Kind=x.1)∧(b.Text=y.2.1∧b.Kind=y.1)∧(c.Text=z.2.1∧c.Kind=z.1):=by
 obtain⟨A,R,rfl,hA,hR⟩:=List.map_eq_append_iff.1 h
 obtain⟨a,A,rfl,k1,hA⟩:=List.map_eq_cons_iff.1 hA
 obtain⟨b,A,rfl,k2,hA⟩:=List.map_eq_cons_iff.1 hA
 obtain⟨c,A,rfl,k3,hA⟩:=List.map_eq_cons_iff.1 hA
 obtain rfl:=List.map_eq_nil_iff.1 hA
 have tx:∀ {t:Token} {x:Int×List UInt8×Bool},keyT t=x→t.Text=x.2.1∧t.Kind=x.1∧t.First=x.2.2:=fun h=>by rw[← h]; exact⟨rfl,rfl,rfl⟩
 refine⟨a,b,c,R,rfl,?_,hR,⟨(tx k1).1,(tx k1).2.1⟩,⟨(tx k2).1,(tx k2).2.1⟩,⟨(tx k3).1,(tx k3).2.1⟩⟩
 show Kn [a] (b::c::R)=_
 simp only[Kn,(tx k2).2.2,(tx k3).2.2,hy,hz,Bool.false_eq_true,if_false,List.cons_append,List.nil_append]
 cases R with
 | nil=>rfl
 | cons r R =>
  have hr:r.First=true:=hk (keyT r) (R.map keyT) (by rw[← hR]; rfl)
  simp only[Kn,hr,if_true]
  rfl
theorem Jh3(s:List UInt8)(h0:(JG 0 s).2.Err=0)(hs:s.length≤1000):(JG 0 s).1.length≤1000∧(∀ t∈(JG 0 s).1,t.Text.length≤1000)∧∀ t r,(JG 0 s).1.map keyT=t::r→t.2.2=true:=by
 have h1:=Jmu ((Jr s).length+1) (Jr s) 0 0 true
 have h2:=JkZ s
 obtain⟨_,h3,h4⟩:=JnN 0 s
 have hr:=Jin h0
 have hl:(JG 0 s).1.length=(raws s).1.length:=by
  have:=congrArg List.length (JfO hr).2
  simpa using this.symm
 refine⟨by rw[hl]; unfold raws; omega,fun t ht=>?_,fun t r e=>?_⟩
 ·have:keyT t∈(raws s).1.map keyR:=by rw[(JfO hr).2]; exact List.mem_map_of_mem ht
  obtain⟨x,hx,e⟩:=List.mem_map.1 this
  have e2:t.Text=x.txt:=by
   have:=congrArg (fun y:Int×List UInt8×Bool=>y.2.1) e
   exact this.symm
  rw[e2]
  have:=h1.2 x hx
  omega
 cases hx:(JG 0 s).1 with
 | nil=>rw[hx]at e; cases e
 | cons a l =>
  rw[hx]at e
  simp only[List.map_cons,List.cons.injEq]at e
  rw[← e.1]
  exact h4 a l hx
theorem Jxg(T:List UInt8)(hT:T.length≤3000)(N:Nat){F1 F2:Int}{M1 M2:List Macro}{o1 o2:List Int}{r1 r2:List Int}{out1 out2:List Token}
  (h1:∀ c:Token,c.File=1→c.Kind=4→c.Text=34::([104]++[34])→∀ a b:Token,b.Text=incT→(Ji (N+7)).2.1 [a,b,c] (fsO T) 4000 1500 6 [] [] [1] 0 []=some (.ok (F1,M1,o1,r1,0,out1)))
  (h2:∀ c:Token,c.File=1→c.Kind=4→c.Text=34::([104]++[34])→∀ a b:Token,b.Text=incT→(Ji (N+7)).2.1 [a,b,c] (fsO T) F1 1500 6 M1 o1 r1 0 out1=some (.ok (F2,M2,o2,r2,0,out2))) :
  (Ji (N+8)).1 1 (fsO T) 4000 1500 6 [] [] [] 0 []=some (.ok (F2,M2,o2,r2,0,out2)):=by
 obtain⟨ts,t1,t2,t3⟩:=JiD (k:=1) (text:=mT) (by decide) mT_k
 obtain⟨a,b,c,R,rfl,l1,l2,⟨a1,a2⟩,b1,c1,c2⟩:=Jun t2 (fun t r e=>by cases e; rfl)
 obtain⟨a',b',c',R',rfl,l1',l2',⟨a1',a2'⟩,b1',c1',c2'⟩:=Jun l2 (fun t r e=>by cases e)
 obtain rfl:=List.map_eq_nil_iff.1 l2'
 have hc:c.File=1:=(t3 c (by simp)).1
 have hc':c'.File=1:=(t3 c' (by simp)).1
 rw[Jj5]
 have hfile:=Jqy (Ji (N+7)).1 (Ji (N+7)).2.1 (Ji (N+7)).2.2 (fsO T) 4000 1500 6 [] [] [] 0 [] 1 (by simp[fsO]) (ts:=a::b::c::a'::b'::c'::[]) t1 (by show mT.length≤3000; decide) (by simp)
 rw[l1,l1']at hfile
 rw[show((1:Nat):Int)=1 from rfl]at hfile
 rw[hfile]
 generalize hLs:[a,b,c]::[a',b',c']::JD []=lines
 have i0:lines.length=2:=by rw[← hLs]; rfl
 have g0:lines.getD 0 default=[a,b,c]:=by rw[← hLs]; rfl
 have g1:lines.getD 1 default=[a',b',c']:=by rw[← hLs]; rfl
 have s0:=Jpr (Ji (N+7)).2.1 (fsO T) 1500 6 lines 0 0 4000 [] [] [1] 0 [] [] [] (by omega) (by omega) g0 (by simp) a1 a2 (Jaq [] (fsO T) 4000 1500 6 0 [] [1] [])
  (JiI (fsO T) 4000 1500 6 [] [] [1] 0 [] [] 0 [a,b,c] incT (by simp) b1) (JmI []) (h1 c hc c2 c1 a b b1)
 have s1:=Jpr (Ji (N+7)).2.1 (fsO T) 1500 6 lines 0 1 F1 M1 o1 r1 0 [] [] out1 (by omega) (by omega) g1 (by simp) a1' a2' (Jaq M1 (fsO T) F1 1500 6 0 o1 r1 out1)
  (JiI (fsO T) F1 1500 6 M1 o1 r1 0 [] out1 0 [a',b',c'] incT (by simp) b1') (JmI []) (h2 c' hc' c2' c1' a' b' b1')
 rw[JE]
 rw[show((0:Nat):Int)=0 from rfl]at s0
 rw[show([]:List Int)++[1]=[1] from rfl,s0]
 simp only
 rw[JE,s1]
 simp only
 rw[JE,show 1+1=lines.length by omega,JkE (Ji (N+7)).2.1 (fsO T) 1500 6 lines F2 M2 o2 r2 0 [] [] out2 (Jaq M2 (fsO T) F2 1500 6 0 o2 r2 out2)]
theorem JAq{B l:List Token}(h:B.map keyT=l.map keyT):B.map (·.Text)=l.map (·.Text):=by
 have:=congrArg (List.map fun x:Int×List UInt8×Bool=>x.2.1) h
 rw[List.map_map,List.map_map]at this
 exact this
def tame(l:List Token):Prop:=∀ t∈l,t.Text≠[35]∧t.Text≠gdT∧t.Text≠Ji4∧t.Text≠Ji7
theorem JAb(s:List UInt8)(h0:(JG 0 s).2.Err=0)(hs:s.length≤1000)(ho:shut s)(ht:tame (JG 0 s).1):
  ∃ B M,B.map keyT=(JG 0 s).1.map keyT∧Jad (fsO (preG++10::(s++10::sufG))) 1 [] ⟨4000,1500,6⟩=some (B,[1,0,0],M,0,-1,0):=by
 obtain⟨n1,n2,n3⟩:=Jh3 s h0 hs
 generalize hT:preG++10::(s++10::sufG)=T
 have hTl:T.length≤3000:=by rw[← hT]; simp[preG,sufG]; omega
 have hk:=Ju7 preG s sufG (by decide) ho (by decide) JFd (Jin h0) JFm
 rw[hT]at hk
 obtain⟨ts,t1,t2,t3⟩:=JiD (k:=0) hTl hk
 obtain⟨N,hN⟩:∃ N,bigF=N+8:=⟨bigF-8,by have:=JyS; omega⟩
 have hks:((JG 0 s).1.map keyT).length=(JG 0 s).1.length:=List.length_map ..
 obtain⟨B,hB,_,hg⟩:=JxF (Ji (N+3)).1 (Ji (N+3)).2.1 (Ji (N+3)).2.2 (fsO T) 4000 1500 6 [] [] ([1]++[0]) (0+1) [] t2 n3 (fun t ht=>(t3 t ht).2.1) (by decide) (by simp) (by simp)
  (fun k hk=>by
   obtain⟨t,h1,rfl⟩:=List.mem_map.1 hk
   obtain⟨a,b,c,d⟩:=ht t h1
   exact⟨a,b,c,d,by simp⟩) (by omega) (by omega) (by simp only[List.length_nil]; omega)
 have hfile:=fun(q1:Q1) (q2 q3:Q2) (F:Int) (M:List Macro) (rd:List Int) (out:List Token) (hrd:rd.length≤1000)=>Jqy q1 q2 q3 (fsO T) F 1500 6 M [] rd (0+1) out 0 (by simp[fsO]) (ts:=ts) (by exact t1) (by exact hTl) hrd
 refine⟨B,[⟨gdT,false,[],false,[]⟩],hB,?_⟩
 have hroot:=Jxg T hTl N (F1:=4000-(((JG 0 s).1.map keyT).length:Int)) (F2:=4000-(((JG 0 s).1.map keyT).length:Int)) (M1:=[⟨gdT,false,[],false,[]⟩]) (M2:=[⟨gdT,false,[],false,[]⟩]) (o1:=[]) (o2:=[]) (r1:=[1,0]) (r2:=[1,0,0]) (out1:=B) (out2:=B)
  (fun c f1 f2 f3 a b fb=>JvC (N+4) (fsO T) 4000 1500 6 [] [] [1] 0 [] a b c fb f2 f3 (by decide) (k:=0) (by rw[f1]; exact Jnu T) (by simp) (by simp) (by omega) (by
   rw[Jj5,hfile _ _ _ _ _ _ _ (by simp),Ji3]
   exact hg))
  (fun c f1 f2 f3 a b fb=>JvC (N+4) (fsO T) _ 1500 6 [⟨gdT,false,[],false,[]⟩] [] [1,0] 0 B a b c fb f2 f3 (by decide) (k:=0) (by rw[f1]; exact Jnu T) (by simp) (by simp) (by omega) (by
   rw[Jj5,hfile _ _ _ _ _ _ _ (by simp)]
   exact Jxx _ (fsO T) _ 1500 6 [⟨gdT,false,[],false,[]⟩] [] ([1,0]++[0]) (0+1) B t2 n3 (by decide) (kf:=0) (by decide +kernel) (by omega) (fun k hk=>by
    obtain⟨t,h1,rfl⟩:=List.mem_map.1 hk
    exact(ht t h1).1) (by omega)))
 rw[← hN]at hroot
 exact JAF (fsO T) 1 (by simp[fsO]) (Jsg T hTl) 6 (by omega) hroot
theorem JBU(s:List UInt8)(h0:(JG 0 s).2.Err=0)(hs:s.length≤1000)(ho:shut s)(ht:tame (JG 0 s).1):
  ∃ B M,B.map keyT=(JG 0 s).1.map keyT∧Jad (fsO (preO++10::(s++10::[]))) 1 [] ⟨4000,1500,6⟩=some (B,[1,0],M,0,-1,0):=by
 obtain⟨n1,n2,n3⟩:=Jh3 s h0 hs
 generalize hT:preO++10::(s++10::[])=T
 have hTl:T.length≤3000:=by rw[← hT]; simp[preO]; omega
 have hk:=Ju7 preO s [] (by decide) ho (by simp) JER (Jin h0) JEW
 rw[hT,List.append_nil]at hk
 obtain⟨ts,t1,t2,t3⟩:=JiD (k:=0) hTl hk
 obtain⟨N,hN⟩:∃ N,bigF=N+8:=⟨bigF-8,by have:=JyS; omega⟩
 obtain⟨a,b,c,B,hts,l1,hB,⟨a1,a2⟩,⟨b1,b2⟩,⟨c1,c2⟩⟩:=JFf (x:=(5,[35],true)) (y:=(1,Jnm,false)) (z:=(1,JzJ,false)) rfl rfl t2 n3
 have hks:((JG 0 s).1.map keyT).length=(JG 0 s).1.length:=List.length_map ..
 have hBl:B.length=(JG 0 s).1.length:=by rw[← hks,← hB,List.length_map]
 have hfirst:∀ t r,B=t::r→t.First=true:=fun t r e=>n3 (keyT t) (r.map keyT) (by rw[← hB,e]; rfl)
 obtain⟨q1,q2⟩:=Joj B hfirst
 have hlen:=JkD B
 have hmem:∀ t∈B,t∈ts:=fun t h=>by rw[hts]; simp[h]
 have hdull:∀ t∈B,t.Text≠[35]∧dull [] t:=by
  intro t h
  have:keyT t∈(JG 0 s).1.map keyT:=by rw[← hB]; exact List.mem_map_of_mem h
  obtain⟨x,hx,e⟩:=List.mem_map.1 this
  have e2:t.Text=x.Text:=(congrArg (fun y:Int×List UInt8×Bool=>y.2.1) e).symm
  obtain⟨u1,u2,u3,u4⟩:=ht x hx
  exact⟨by rw[e2]; exact u1,by simp,by rw[e2]; exact u3,by rw[e2]; exact u4,(t3 t (hmem t h)).2.1⟩
 have hc:c.File=0:=(t3 c (by rw[hts]; simp)).1
 have hloop:Jt (JB (Ji (N+4)).2.1 (fsO T) 1500 6 (JD ts)) (0,((JD ts).length:Int),0,4000,[],[],[1]++[0],0+1,[],[],[])=some (.ok (4000-(B.length:Int),[],[0],[1,0],0+1,B)):=by
  rw[l1]
  generalize hLs:[a,b,c]::JD B=lines
  have i0:lines.length=(JD B).length+1:=by rw[← hLs]; rfl
  have g0:lines.getD 0 default=[a,b,c]:=by rw[← hLs]; rfl
  have g2:(lines.drop 1).take (JD B).length=JD B:=by rw[← hLs]; simp
  have s0:=Jpr (Ji (N+4)).2.1 (fsO T) 1500 6 lines 0 0 4000 [] [] ([1]++[0]) (0+1) [] [] [] (by omega) (by omega) g0 (by simp) a1 a2 (Jaq [] (fsO T) 4000 1500 6 (0+1) [] ([1]++[0]) [])
   (JiI (fsO T) 4000 1500 6 [] [] ([1]++[0]) (0+1) [] [] 0 [a,b,c] Jnm (by simp) b1) (JmI []) (by rw[Ji3]; exact JEG _ _ _ (fsO T) 4000 1500 6 [] [] ([1]++[0]) (0+1) [] a b c b1 c1 (by simp))
  rw[JE]
  rw[show((0:Nat):Int)=0 from rfl]at s0
  rw[s0]
  simp only
  have s2:=Jho (Ji (N+4)).2.1 (fsO T) 1500 6 lines 0 4000 [] ([]++[c.File]) ([1]++[0]) (0+1) [] [] (by omega) (JmI []) (JD B).length 1 [] (by omega)
   (by rw[g2]; exact fun L hL=>⟨(q2 L hL).1,(hdull _ (q2 L hL).2).1⟩) (by rw[g2,q1]; simp only[List.length_nil]; omega)
  rw[g2,q1]at s2
  rw[show(0+1:Nat)=1 from rfl,s2]
  simp only[if_true,List.nil_append]
  rw[JE,show 1+(JD B).length=lines.length by omega,JkE (Ji (N+4)).2.1 (fsO T) 1500 6 lines _ _ _ _ _ [] B [] (Jo2 [] (by simp) (fsO T) 1500 6 _ _ _ [] B (by omega) 4000 (by omega) (by simp only[List.length_nil]; omega) (fun t ht=>(hdull t ht).2))]
  simp only[hc]
  rfl
 refine⟨B,[],hB,?_⟩
 have hroot:=Jxg T hTl N (F1:=4000-(B.length:Int)) (F2:=4000-(B.length:Int)) (M1:=[]) (M2:=[]) (o1:=[0]) (o2:=[0]) (r1:=[1,0]) (r2:=[1,0]) (out1:=B) (out2:=B)
  (fun c f1 f2 f3 a b fb=>JvC (N+4) (fsO T) 4000 1500 6 [] [] [1] 0 [] a b c fb f2 f3 (by decide) (k:=0) (by rw[f1]; exact Jnu T) (by simp) (by simp) (by omega) (by
   rw[Jj5,Jqy _ _ _ (fsO T) 4000 1500 6 [] [] [1] (0+1) [] 0 (by simp[fsO]) (ts:=ts) (by exact t1) (by exact hTl) (by simp)]
   exact hloop))
  (fun c f1 f2 f3 a b fb=>JB0 (N+4) (fsO T) _ 1500 6 [] [0] [1,0] 0 B a b c fb f2 f3 (by decide) (k:=0) (by rw[f1]; exact Jnu T) (by simp) (by simp))
 rw[← hN]at hroot
 exact JAF (fsO T) 1 (by simp[fsO]) (Jsg T hTl) 6 (by omega) hroot
theorem Juy(s:List UInt8)(once:Bool)(h0:(JG 0 s).2.Err=0)(hs:s.length≤1000)(ho:shut s)(ht:tame (JG 0 s).1):
  Km s once (JG 0 s) (((JG 0 s).1.length:Int),((JG 0 s).1.length:Int))=some (.inr true):=by
 obtain⟨n1,n2,n3⟩:=Jh3 s h0 hs
 have key:∀ (B M) (rd:List Int) (T:List UInt8) (x:Int),B.map keyT=(JG 0 s).1.map keyT→Jad (fsO T) 1 [] ⟨4000,1500,6⟩=some (B,rd,M,0,-1,0)→(rd.length:Int)=x →
   VQ (JG 0 s) (B,rd,M,0,-1,0) x=some true:=by
  intro B M rd T x hB hr hx
  have e:=JAq hB
  have hl:B.length=(JG 0 s).1.length:=by
   have:=congrArg List.length hB
   simpa using this
  have hBt:∀ t∈B,t.Text.length≤3000:=by
   intro t h
   have:t.Text∈B.map (·.Text):=List.mem_map_of_mem h
   rw[e]at this
   obtain⟨y,hy,e2⟩:=List.mem_map.1 this
   rw[← e2]
   have:=n2 y hy
   omega
  simp only[VQ]
  rw[JBf B (by omega) hBt,JBf (JG 0 s).1 (by omega) (fun t h=>by have:=n2 t h; omega),e]
  simp only[Option.bind_some,eqS,decide_true,if_true,XZ,hx,eqI]
 simp only[Km,ltI,decide_eq_true_eq]
 rw[if_neg (by omega),if_pos (by omega),if_pos (by omega)]
 cases once
 ·obtain⟨B,M,hB,hr⟩:=JAb s h0 hs ho ht
  rw[if_neg Bool.false_ne_true]
  have hT:([35,105,102,110,100,101,102,32,71,85,65,82,68,95,72,10,35,100,101,102,105,110,101,32,71,85,65,82,68,95,72,10]++s)++[10,35,101,110,100,105,102,10]=preG++10::(s++10::sufG):=by
   simp[preG,sufG]
  rw[hT]
  have hr':Jad [(⟨[104],preG++10::(s++10::sufG)⟩:Source),(⟨[109],[35,105,110,99,108,117,100,101,32,34,104,34,10,35,105,110,99,108,117,100,101,32,34,104,34,10]⟩:Source)] 1 [] ⟨4000,1500,6⟩=some (B,[1,0,0],M,0,-1,0):=hr
  simp only[VT,JbV,Option.bind_some,hr',inrO]
  rw[if_neg (by decide),if_neg Bool.false_ne_true,key B M [1,0,0] _ 3 hB hr rfl]
  rfl
 obtain⟨B,M,hB,hr⟩:=JBU s h0 hs ho ht
 rw[if_pos rfl,if_pos (by omega),if_pos (by omega)]
 have hT:([35,112,114,97,103,109,97,32,111,110,99,101,10]++s)++[10]=preO++10::(s++10::[]):=by
  simp[preO]
 rw[hT]
 have hr':Jad [(⟨[104],preO++10::(s++10::[])⟩:Source),(⟨[109],[35,105,110,99,108,117,100,101,32,34,104,34,10,35,105,110,99,108,117,100,101,32,34,104,34,10]⟩:Source)] 1 [] ⟨4000,1500,6⟩=some (B,[1,0],M,0,-1,0):=hr
 simp only[VT,JbV,Option.bind_some,hr',inrO]
 rw[if_neg (by decide),if_pos trivial,key B M [1,0] _ 2 hB hr rfl]
 rfl
theorem JjO(s:List UInt8)(once:Bool)(h0:(JG 0 s).2.Err=0)(hs:s.length≤1000)(ho:shut s):∀ k i:Nat,i+k=(JG 0 s).1.length→tame ((JG 0 s).1.take i) →
  Jt (Km s once (JG 0 s)) (((JG 0 s).1.length:Int),(i:Int))=some true
 | 0,i,h,ht=>by
  obtain rfl:i=(JG 0 s).1.length:=by omega
  rw[List.take_length]at ht
  rw[JE,Juy s once h0 hs ho ht]
 | k+1,i,h,ht=>by
  obtain⟨n1,n2,n3⟩:=Jh3 s h0 hs
  rw[JE]
  have yes:∀ x2 x3,KJ x2 x3 true=some (.inr true):=fun _ _=>rfl
  have stop:(∃ x,Km s once (JG 0 s) (((JG 0 s).1.length:Int),(i:Int))=some (.inr x)∧x=true)∨(tame ((JG 0 s).1.take (i+1))∧Km s once (JG 0 s) (((JG 0 s).1.length:Int),(i:Int))=some (.inl (((JG 0 s).1.length:Int),((i+1:Nat):Int)))):=by
   simp only[Km,ltI,decide_eq_true_eq,Int.toNat_natCast,eqS]
   rw[if_pos (by omega),if_pos (by omega)]
   by_cases c1:((JG 0 s).1.getD i default).Text=[35]
   ·rw[if_pos c1]; exact .inl ⟨true,yes _ _,rfl⟩
   rw[if_neg c1]
   by_cases c2:((JG 0 s).1.getD i default).Text=[71,85,65,82,68,95,72]
   ·rw[if_pos c2]; exact .inl ⟨true,yes _ _,rfl⟩
   rw[if_neg c2]
   by_cases c3:((JG 0 s).1.getD i default).Text=[95,95,76,73,78,69,95,95]
   ·rw[if_pos c3]; exact .inl ⟨true,yes _ _,rfl⟩
   rw[if_neg c3]
   by_cases c4:((JG 0 s).1.getD i default).Text=[95,95,70,73,76,69,95,95]
   ·rw[decide_eq_true c4]; exact .inl ⟨true,yes _ _,rfl⟩
   rw[decide_eq_false c4]
   refine .inr ⟨fun t htt=>?_,by simp only[KJ,Bool.false_eq_true,if_false,wN1 i (by omega)]⟩
   rw[List.take_succ_eq_append_getElem (by omega)]at htt
   rcases List.mem_append.1 htt with htt | htt
   ·exact ht t htt
   have e:t=(JG 0 s).1.getD i default:=by
    rw[List.mem_singleton.1 htt,List.getD_eq_getElem?_getD,List.getElem?_eq_getElem (by omega)]; rfl
   rw[e]
   exact⟨c1,c2,c3,c4⟩
  rcases stop with⟨x,h1,rfl⟩|⟨h1,h2⟩
  ·rw[h1]
  rw[h2]
  exact JjO s once h0 hs ho k (i+1) (by omega) h1
theorem Jwi(s:List UInt8)(once:Bool)(hl:s.length≤281474976710656):JaW s once=some true:=by
 unfold JaW
 rw[JFg,Jxl 0 s]
 simp only[Option.bind_some,Bool.not_true,Bool.false_eq_true,if_false]
 by_cases h0:(JG 0 s).2.Err=0
 ·rw[if_neg (JFa h0)]
  by_cases hs:(1000:Int)<(s.length:Int)
  ·rw[if_pos (by simp only[ltI,decide_eq_true_eq]; exact hs)]; rfl
  rw[if_neg (by simp only[ltI,decide_eq_true_eq]; exact hs)]
  obtain⟨b,hb⟩:∃ b,Za s=some b:=by
   unfold Za
   by_cases g0:(0:Int)<(s.length:Int)
   ·have w1:IntKind.i64.wrap ((s.length:Int)-1)=((s.length-1:Nat):Int):=wNm s.length (by omega)
    simp only[w1,Int.toNat_natCast,ltI,decide_eq_true_eq]
    rw[if_pos g0,if_pos (by omega)]
    split
    ·exact⟨_,rfl⟩
    split
    ·rename_i g1
     have w2:IntKind.i64.wrap ((s.length:Int)-2)=((s.length-2:Nat):Int):=by rw[wr _ (by omega)]; omega
     rw[w2,if_pos (by omega)]
     split
     ·rw[if_pos (by omega)]; exact⟨_,rfl⟩
     exact⟨_,rfl⟩
    exact⟨_,rfl⟩
   simp only[ltI,decide_eq_true_eq]
   rw[if_neg g0,if_neg (by omega)]
   exact⟨_,rfl⟩
  rw[hb]
  simp only[Option.bind_some]
  cases b
  ·simp only[VS,Bool.false_eq_true,if_false]
   exact JjO s once h0 (by omega) (JBj s (by omega) hb rfl) _ 0 (Nat.zero_add _) (fun t h=>by simp at h)
  rfl
 rw[if_pos (JE9 h0)]; rfl
theorem JuB(s:List UInt8)(once:Bool)(hl:s.length≤281474976710656):JaW s once=some true:=Jwi s once hl
end Go.Proofs.YtfkhlbhjhdpkoaaGreatDoor
