/- TopDiamond answers true. Plain. -/
import Derived.Test.YtfkhlbhjhdpkoaaGreatDoorZpbs
import Derived.Test.YtfkhlbhjhdpkoaaGreatDoorZpbx
set_option linter.unusedVariables false
set_option linter.unusedSimpArgs false
set_option maxHeartbeats 4000000
namespace Go.Proofs.YtfkhlbhjhdpkoaaGreatDoor
open Go.RowKit
set_option maxHeartbeats 1000000
abbrev mG:Macro:=⟨gD,false,[],false,[]⟩
def low(w:List UInt8):Prop:=∀ c∈w,97≤c.toNat∧c.toNat≤122
theorem Jha{w x:List UInt8}(h:low w)(hx:x.any (fun c=>decide (c.toNat<97))=true):w≠x:=by
 rintro rfl
 obtain⟨c,h1,h2⟩:=List.any_eq_true.1 hx
 have:=h c h1
 have:=of_decide_eq_true h2
 omega
theorem JAU{w:List UInt8}(h:low w):shut w:=by
 intro a
 exact⟨fun e=>Jha h (x:=a++[92]) (by simp) e,fun e=>Jha h (x:=a++[92,13]) (by simp) e⟩
theorem Jyy(n:Nat)(w:List UInt8)(hw:w.length≤20)(h0:w≠[])(hl:low w):
  ∃ ts,Jfz (n:Int) (preD++10::(w++10::sufG))=(ts,⟨0,-1,0⟩)∧ts.map keyT=Jit gD++[(1,w,true)]++endK∧∀ t∈ts,rawT (n:Int) t:=by
 have hk:=JA0 preD w sufG (by decide) (JAU hl) (by decide) JDD (Jzs w h0 hl) JDn
 exact Jhy (k:=(n:Int)) (by simp[preD,sufG]; omega) hk
theorem JCd(n:Nat)(w:List UInt8)(hw:w.length≤20)(h0:w≠[])(hl:low w)(L:Nat)(rd:List Int)(hrd:rd.length≤100):
  ∃ B:List Token,B.map keyT=[(1,w,true)]∧(Jh (L+2)).1 (n:Int) (fsD n w) 4000 1500 6 [] [] rd (0+1+1) []=some (.ok (3999,[mG],[],rd++[(n:Int)],0+1+1,B)):=by
 obtain⟨ts,t1,t2,t3⟩:=Jyy n w hw h0 hl
 have hn3:∀ t r,[((1:Int),w,true)]=t::r→t.2.2=true:=fun t r e=>by cases e; rfl
 obtain⟨B,hB,_,hg⟩:=Jv5 (Jh L).1 (Jh L).2.1 (Jh L).2.2 (fsD n w) 4000 1500 6 [] [] (rd++[(n:Int)]) (0+1+1) [] t2 hn3 (fun t ht=>(t3 t ht).2.1) (by decide) (by simp) (by simp)
  (fun k hk=>by
   obtain rfl:=List.mem_singleton.1 hk
   exact⟨Jha hl (by decide),Jha hl (by decide),Jha hl (by decide),Jha hl (by decide),by simp⟩) (by simp) (by simp) (by simp)
 refine⟨B,hB,?_⟩
 rw[JjN,Jl4 _ _ _ (fsD n w) 4000 1500 6 [] [] rd (0+1+1) [] n (by rw[JbF]; omega) (ts:=ts) (by rw[Joa]; exact t1) (by rw[Joa]; simp[preD,sufG]; omega) (by omega),JsH]
 exact hg
theorem JCO(n:Nat)(w:List UInt8)(hw:w.length≤20)(h0:w≠[])(hl:low w)(L:Nat)(rd:List Int)(hrd:rd.length≤100)(out:List Token):
  (Jh (L+2)).1 (n:Int) (fsD n w) 3999 1500 6 [mG] [] rd (0+1+1) out=some (.ok (3999,[mG],[],rd++[(n:Int)],0+1+1,out)):=by
 obtain⟨ts,t1,t2,t3⟩:=Jyy n w hw h0 hl
 have hn3:∀ t r,[((1:Int),w,true)]=t::r→t.2.2=true:=fun t r e=>by cases e; rfl
 rw[JjN,Jl4 _ _ _ (fsD n w) 3999 1500 6 [mG] [] rd (0+1+1) out n (by rw[JbF]; omega) (ts:=ts) (by rw[Joa]; exact t1) (by rw[Joa]; simp[preD,sufG]; omega) (by omega)]
 exact Jwi _ (fsD n w) 3999 1500 6 [mG] [] (rd++[(n:Int)]) (0+1+1) out t2 hn3 (by decide) (kf:=0) (by decide +kernel) (by omega) (fun k hk=>by
  obtain rfl:=List.mem_singleton.1 hk
  exact Jha hl (by decide)) (by simp)
theorem JpY(n:Nat)(hn:n<7)(w:List UInt8)(L:Nat)(lines:List (List Token))(hlen:lines.length=n+1)(j:Nat)(hj:j<n){a b c:Token}(hg:lines.getD j default=[a,b,c])(hc:c.File=((n+1:Nat):Int))(ha:a.Text=[35]∧a.Kind=5)(hb:b.Text=incT)(hct:c.Text=34::(aP j++[34]))(hck:c.Kind=4)
  (F:Int) (M:List Macro) (rd:List Int) (out:List Token) {F':Int} {M':List Macro} {rd':List Int} {out':List Token}
  (h:(Jh (L+5)).1 (j:Int) (fsD n w) F 1500 6 M [] rd (0+1) out=some (.ok (F',M',[],rd',0+1,out'))) :
  Jv (Jh (L+7)).2.1 (fsD n w) 1500 6 lines (0,(lines.length:Int),(j:Int),F,M,[],rd,0,[],[],out)=some (.inl (0,(lines.length:Int),((j+1:Nat):Int),F',M',[],rd',0,[],[],out')):=by
 have hpl:(aP j).length≤1000:=by
  have:=JBO j (by omega)
  simp only[aP,List.length_append,List.length_cons,List.length_nil]; omega
 have hi:=JyY (L+4) (fsD n w) F 1500 6 M [] rd 0 out a b c hb hck hct hpl (k:=j) (by rw[hc]; exact JwI n hn w (n+1) (aP j) mC (by omega) (by rw[Jtp]) (bA j (by omega)) (fA n hn j hj)) (by simp) (by simp) (by omega) h
 have s0:=Jt0 (Jh (L+7)).2.1 (fsD n w) 1500 6 lines 0 j F M [] rd 0 [] [] out (by omega) (by omega) hg (by simp) ha.1 ha.2 (JaS M (fsD n w) F 1500 6 0 [] rd out)
  (JiZ (fsD n w) F 1500 6 M [] rd 0 [] out 0 [a,b,c] incT (by simp) hb) (Jop []) hi
 exact s0
def JBN(n:Nat)(lines:List (List Token))(j:Nat):Prop:=∃ a b c,lines.getD j default=[a,b,c]∧c.File=((n+1:Nat):Int)∧(a.Text=[35]∧a.Kind=5)∧b.Text=incT∧c.Text=34::(aP j++[34])∧c.Kind=4
theorem JBb(n:Nat)(w:List UInt8)(q2:Q2)(lines:List (List Token))(hlen:lines.length=n+1)(e:Token)(he:lines.getD n default=[e])(hk:keyT e=(1,endW,true))(hh:e.Hide=[])(hn:n<7)(B:List Token)(hB:B.length=1)(rd:List Int):
  Jy (Jv q2 (fsD n w) 1500 6 lines) (0,(lines.length:Int),(n:Int),3999,[mG],[],rd,0,[],[],B)=some (.ok (3998,[mG],[],rd,0,B++[e])):=by
 have ht:e.Text=endW:=congrArg (fun y:Int×List UInt8×Bool=>y.2.1) hk
 have s0:=Joh q2 (fsD n w) 1500 6 lines 0 n 3999 [mG] [] rd 0 [] [] B (by omega) (by omega) (by rw[he]; simp) (by rw[he]; show e.Text≠[35]; rw[ht]; decide) (Jop []) (by rw[he]; simp)
 have hf:=Jo0 [mG] (by simp) (fsD n w) 1500 6 0 [] rd B [e] (by simp) 3999 (by simp) (by simp[hB]) (fun t hm=>by
  obtain rfl:=List.mem_singleton.1 hm
  refine⟨fun m hm=>?_,by rw[ht]; decide,by rw[ht]; decide,hh⟩
  rw[List.mem_singleton.1 hm,ht]
  show gD≠endW
  decide)
 rw[Jz]
 rw[he]at s0
 rw[s0]
 simp only[if_true,List.nil_append]
 rw[Jz,← hlen,Ji3 q2 (fsD n w) 1500 6 lines 3999 [mG] [] rd 0 [] [e] B hf]
 rfl
theorem Jxu(n:Nat)(hn:n<7)(w:List UInt8)(hw:w.length≤20)(h0:w≠[])(hl:low w)(L:Nat)(lines:List (List Token))(hlen:lines.length=n+1)(hA:∀ j,j<n→JBN n lines j)(e:Token)(he:lines.getD n default=[e])(hk:keyT e=(1,endW,true))(hh:e.Hide=[])(B:List Token)(hB:B.length=1):
  ∀ (k j:Nat) (rd:List Int),j+k=n→rd.length≤2 * j+1→∃ rd',Jy (Jv (Jh (L+7)).2.1 (fsD n w) 1500 6 lines) (0,(lines.length:Int),(j:Int),3999,[mG],[],rd,0,[],[],B)=some (.ok (3998,[mG],[],rd',0,B++[e]))
 | 0,j,rd,h,_=>by
  obtain rfl:j=n:=by omega
  exact⟨rd,JBb j w _ lines hlen e he hk hh hn B hB rd⟩
 | k+1,j,rd,h,hr=>by
  obtain⟨a,b,c,g1,g2,g3,g4,g5,g6⟩:=hA j (by omega)
  have hd:=JCO n w hw h0 hl L (rd++[(j:Int)]) (by simp only[List.length_append,List.length_cons,List.length_nil]; omega) B
  have ha:=JyM (L+1) n hn w j (by omega) 3999 [mG] rd (by omega) B hd
  obtain⟨rd',hgo⟩:=Jxu n hn w hw h0 hl L lines hlen hA e he hk hh B hB k (j+1) (rd++[(j:Int)]++[(n:Int)]) (by omega) (by simp only[List.length_append,List.length_cons,List.length_nil]; omega)
  refine⟨rd',?_⟩
  rw[Jz,JpY n hn w L lines hlen j (by omega) g1 g2 g3 g4 g5 g6 3999 [mG] rd B ha]
  exact hgo
theorem Jwp(n:Nat)(hn:n<7)(h1:1≤n)(w:List UInt8)(hw:w.length≤20)(h0:w≠[])(hl:low w):
  ∃ (x y:Token) (rd:List Int),x.Text=w∧y.Text=endW∧JbR (fsD n w) ((n+1:Nat):Int) [] ⟨4000,1500,6⟩=some ([x,y],rd,[mG],0,-1,0):=by
 obtain⟨L,hL⟩:∃ L,bigF=L+8:=⟨bigF-8,by have:=JCV; omega⟩
 obtain⟨ts,t1,t2,t3⟩:=Jhy (k:=((n+1:Nat):Int)) (text:=dS1 n++endW) (sA n hn) (kR n hn)
 obtain⟨Ls,R,l1,l2,l3,l4,l5⟩:=JoA n [(1,endW,true)] ts t2 (fun t r e=>by cases e; rfl)
 obtain⟨e,R',rfl,k1,hR⟩:=List.map_eq_cons_iff.1 l3
 obtain rfl:=List.map_eq_nil_iff.1 hR
 have hLe:JC [e]=[[e]]:=rfl
 rw[hLe]at l1
 generalize hlines:JC ts=lines at l1
 have hlen:lines.length=n+1:=by rw[l1]; simp[l2]
 have hgn:lines.getD n default=[e]:=by rw[l1]; exact Jiw Ls [] _ l2.symm
 have hA:∀ j,j<n→JBN n lines j:=by
  intro j hj
  obtain⟨a,b,c,g1,g2,g3,g4,g5,g6⟩:=l5 j hj
  refine⟨a,b,c,?_,(t3 c g2).1,g3,g4,g5,g6⟩
  rw[l1,List.getD_eq_getElem?_getD,List.getElem?_append_left (by omega),← List.getD_eq_getElem?_getD,g1]
 obtain⟨B,hB,hd⟩:=JCd n w hw h0 hl L ([((n+1:Nat):Int)]++[((0:Nat):Int)]) (by simp)
 obtain⟨x,B',rfl,kx,hB'⟩:=List.map_eq_cons_iff.1 hB
 obtain rfl:=List.map_eq_nil_iff.1 hB'
 have ha:=JyM (L+1) n hn w 0 (by omega) 4000 [] [((n+1:Nat):Int)] (by simp) [] hd
 obtain⟨a,b,c,g1,g2,g3,g4,g5,g6⟩:=hA 0 (by omega)
 obtain⟨rd',hgo⟩:=Jxu n hn w hw h0 hl L lines hlen hA e hgn k1 (t3 e (l4 e (by simp))).2.1 [x] rfl (n-1) 1 ([((n+1:Nat):Int)]++[((0:Nat):Int)]++[(n:Int)]) (by omega) (by simp)
 refine⟨x,e,rd',congrArg (fun y:Int×List UInt8×Bool=>y.2.1) kx,congrArg (fun y:Int×List UInt8×Bool=>y.2.1) k1,?_⟩
 have hroot:(Jh (L+8)).1 ((n+1:Nat):Int) (fsD n w) 4000 1500 6 [] [] [] 0 []=some (.ok (3998,[mG],[],rd',0,[x]++[e])):=by
  rw[JjN,Jl4 _ _ _ (fsD n w) 4000 1500 6 [] [] [] 0 [] (n+1) (by rw[JbF]; omega) (ts:=ts) (by rw[Jtp]; exact t1) (by rw[Jtp]; exact sA n hn) (by simp),hlines]
  have s0:=JpY n hn w L lines hlen 0 (by omega) g1 g2 g3 g4 g5 g6 4000 [] [((n+1:Nat):Int)] [] ha
  rw[show((0:Nat):Int)=0 from rfl]at s0
  rw[Jz]
  rw[show([]:List Int)++[((n+1:Nat):Int)]=[((n+1:Nat):Int)] from rfl,s0]
  exact hgo
 rw[← hL]at hroot
 exact JDF (fsD n w) (n+1) (by rw[JbF]; omega) (Jz6 n hn w hw) 6 (by omega) hroot
theorem JAk(j:Nat)(h:j<7):VP (j:Int)=some (Lib.itoa (j:Int)):=by
 unfold VP
 rw[if_pos (by omega)]
theorem Jy8(x y:Token)(hx:x.Text.length≤1000)(hy:y.Text.length≤1000):Jbn [x,y]=some (x.Text++32::y.Text):=by
 unfold Jbn
 rw[Jz]
 simp only[Z0,ltI,List.length_cons,List.length_nil,decide_eq_true_eq]
 rw[if_pos (by omega),if_pos (by decide),if_neg (by decide)]
 simp only[Jab,List.length_nil]
 rw[if_pos (by show 0+x.Text.length≤_; omega)]
 simp only
 rw[Jz]
 simp only[Z0,ltI,List.length_cons,List.length_nil,decide_eq_true_eq]
 rw[if_pos (by decide),if_pos (by decide),if_pos (by decide)]
 rw[if_pos (by show([]++x.Text).length+1≤_; simp; omega)]
 simp only[Jab]
 rw[if_pos (by show(([]++x.Text)++[32]).length+y.Text.length≤_; simp; omega)]
 simp only
 rw[Jz]
 simp only[Z0,ltI,List.length_cons,List.length_nil,decide_eq_true_eq]
 rw[if_neg (by decide)]
 show some ((([]++x.Text)++[32])++y.Text)=_
 simp
theorem Jwr:∀ n,n<7→(dS1 n).length≤3000:=by decide +kernel
theorem JDC(n:Nat)(hn:n<7)(h1:1≤n)(w:List UInt8)(hw:w.length≤20)(h0:w≠[])(hl:low w):
  KD (n:Int) w (dL1 n,dS1 n,(n:Int))=some (.inr true):=by
 obtain⟨x,y,rd,hx,hy,hr⟩:=Jwp n hn h1 w hw h0 hl
 have hs:=Jwr n hn
 simp only[KD,ltI,decide_eq_true_eq]
 rw[if_neg (by omega),if_pos (by omega),if_pos (by omega),if_pos (by omega),if_pos (by simp[JdY]; omega)]
 have hT:([35,105,102,110,100,101,102,32,68,95,72,10,35,100,101,102,105,110,101,32,68,95,72,10]++w)++[10,35,101,110,100,105,102,10]=preD++10::(w++10::sufG):=by
  simp[preD,sufG]
 rw[hT]
 have hW:IntKind.i64.wrap ((n:Int)+1)=((n+1:Nat):Int):=wN1 n (by omega)
 rw[hW]
 have hr':JbR (dL1 n++[(⟨[100,46,104],preD++10::(w++10::sufG)⟩:Source),(⟨[109,46,99],dS1 n++[101,110,100]⟩:Source)]) ((n+1:Nat):Int) [] ⟨4000,1500,6⟩=some ([x,y],rd,[mG],0,-1,0):=hr
 unfold JbH
 simp only[Jdh,Option.bind_some,hr',Jy8 x y (by rw[hx]; omega) (by rw[hy]; decide),hx,hy,eqI,decide_true,if_true,inrO]
 rw[if_pos (by omega)]
 simp[XN,eqS,endW]
theorem JwC(n:Nat)(hn:n<7)(h1:1≤n)(w:List UInt8)(hw:w.length≤20)(h0:w≠[])(hl:low w):∀ k j:Nat,j+k=n→Jy (KD (n:Int) w) (dL1 j,dS1 j,(j:Int))=some true
 | 0,j,h=>by
  obtain rfl:j=n:=by omega
  rw[Jz,JDC j hn h1 w hw h0 hl]
 | k+1,j,h=>by
  have hi:=JBO j (by omega)
  have hs:=Jwr j (by omega)
  rw[Jz]
  simp only[KD,ltI,decide_eq_true_eq,JAk j (by omega),Option.bind_some,hi]
  rw[if_pos (by omega),if_pos (by omega),if_pos (by simp[JdY]; omega),if_pos (by omega),if_pos (by omega),if_pos (by omega)]
  have hW:IntKind.i64.wrap ((j:Int)+1)=((j+1:Nat):Int):=wN1 j (by omega)
  rw[hW]
  exact JwC n hn h1 w hw h0 hl k (j+1) (by omega)
theorem Jxn(n:Nat)(hn:n<7)(h1:1≤n)(w:List UInt8)(hw:w.length≤20)(h0:w≠[]):∀ k j:Nat,j+k=w.length→low (w.take j)→Jy (VD (n:Int) w) ((w.length:Int),(j:Int))=some true
 | 0,j,h,hl=>by
  obtain rfl:j=w.length:=by omega
  rw[List.take_length]at hl
  rw[Jz]
  simp only[VD,ltI,decide_eq_true_eq]
  rw[if_neg (by omega)]
  have:=JwC n hn h1 w hw h0 hl n 0 (by omega)
  rw[show Jy (KD (n:Int) w) (([]:List Source),[],0)=some true from this]
  rfl
 | k+1,j,h,hl=>by
  rw[Jz]
  simp only[VD,ltI,decide_eq_true_eq,Int.toNat_natCast]
  rw[if_pos (by omega),if_pos (by omega)]
  by_cases c1:((w.getD j default).toNat:Int)<97
  ·rw[if_pos c1]; rfl
  rw[if_neg c1]
  by_cases c2:(122:Int)<((w.getD j default).toNat:Int)
  ·rw[decide_eq_true c2]; rfl
  rw[decide_eq_false c2]
  have hW:IntKind.i64.wrap ((j:Int)+1)=((j+1:Nat):Int):=wN1 j (by omega)
  simp only[XH,Bool.false_eq_true,if_false,hW]
  refine Jxn n hn h1 w hw h0 k (j+1) (by omega) (fun c hc=>?_)
  rw[List.take_succ_eq_append_getElem (by omega)]at hc
  rcases List.mem_append.1 hc with hc | hc
  ·exact hl c hc
  have e:c=w.getD j default:=by
   rw[List.mem_singleton.1 hc,List.getD_eq_getElem?_getD,List.getElem?_eq_getElem (by omega)]; rfl
  rw[e]; omega
theorem Jtg(n:Int)(w:List UInt8):Jau n w=some true:=by
 unfold Jau
 rw[JDl]
 simp only[Option.bind_some,Bool.not_true,Bool.false_eq_true,if_false,ltI,decide_eq_true_eq,eqS]
 by_cases c1:n<1
 ·rw[if_pos c1]; rfl
 rw[if_neg c1]
 by_cases c2:(6:Int)<n
 ·rw[if_pos c2]; rfl
 rw[if_neg c2]
 by_cases c3:w=[]
 ·rw[if_pos c3]; rfl
 rw[if_neg c3]
 by_cases c4:(20:Int)<(w.length:Int)
 ·rw[decide_eq_true c4]; rfl
 rw[decide_eq_false c4]
 simp only[K4,Bool.false_eq_true,if_false]
 obtain⟨m,rfl⟩:∃ m:Nat,n=(m:Int):=⟨n.toNat,by omega⟩
 exact Jxn m (by omega) (by omega) w (by omega) c3 w.length 0 (by omega) (by simp[low])
theorem Jo8(n:Int)(w:List UInt8)(hn:-9223372036854775808≤n∧n≤9223372036854775807):Jau n w=some true:=Jtg n w
end Go.Proofs.YtfkhlbhjhdpkoaaGreatDoor
