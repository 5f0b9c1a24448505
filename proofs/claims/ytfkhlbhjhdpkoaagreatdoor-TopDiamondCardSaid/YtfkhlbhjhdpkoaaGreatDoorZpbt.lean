/- A file with a guard,or that says once: what comes of it. Plain. -/
import Derived.Test.YtfkhlbhjhdpkoaaGreatDoorZpbn
import Derived.Test.YtfkhlbhjhdpkoaaGreatDoorZpbr
set_option linter.unusedVariables false
set_option linter.unusedSimpArgs false
set_option maxHeartbeats 4000000
namespace Go.Proofs.YtfkhlbhjhdpkoaaGreatDoor
open Go.RowKit
abbrev Q1:=Int→List Source→Int→Int→Int→List Macro→List Int→List Int→Int→List Token→Option Ye
abbrev Q2:=List Token→List Source→Int→Int→Int→List Macro→List Int→List Int→Int→List Token→Option Ye
theorem Jl4(q1:Q1)(q2 q3:Q2)(fs:List Source)(F most D:Int)(M:List Macro)(o rd:List Int)(d:Int)(out:List Token)(k:Nat)(hk:k<fs.length){ts:List Token}(ht:Jfz (k:Int) (fs.getD k default).Text=(ts,⟨0,-1,0⟩))(hl:(fs.getD k default).Text.length≤3000)(hrd:rd.length≤1000):
  Va q1 q2 q3 (k:Int) fs F most D M o rd d out=Jy (Jv q2 fs most D (JC ts)) (0,((JC ts).length:Int),0,F,M,o,rd++[(k:Int)],d,[],[],out):=by
 unfold Va
 have hs:=(JvZ (k:Int) (fs.getD k default).Text).1
 rw[ht]at hs
 rw[if_pos (by simp only[List.length_cons,List.length_nil]; omega),if_pos (by omega),Int.toNat_natCast,JoW _ _ (by omega),ht]
 simp only[Option.bind_some,Jpa,grB]
 rw[JzS ts (by simp only at hs; omega)]
 rfl
def dull(M:List Macro)(t:Token):Prop:=(∀ m∈M,m.Name≠t.Text)∧t.Text≠Ji6∧t.Text≠JjE∧t.Hide=[]
theorem Jo0(M:List Macro)(hM:M.length≤30)(fs:List Source)(most D d:Int)(o rd:List Int)(out l:List Token)(hl:l.length≤1500)(F:Int)(hF:(l.length:Int)≤F∧F≤4000)(hm:((out.length+l.length:Nat):Int)≤most∧most≤1500)(h:∀ t∈l,dull M t):
  JT l fs F most D M o rd d out=some (.ok (F-(l.length:Int),out++l)):=by
 have:=JAX M fs most D d o rd out (fun t=>(t.Kind,t.Text,t.Made,false)) l hl F hF hm (fun t ht=>by
  obtain⟨h1,h2,h3,h4⟩:=h t ht
  exact⟨fun f=>Jx9 t M fs f most h2 h3,JlC M hM t.Text h1,h4⟩)
 rw[this]
 have e:l.map (fun t=>gvT t (t.Kind,t.Text,t.Made,false))=l:=by
  conv=>rhs; rw[← List.map_id l]
  exact List.map_congr_left fun t _=>by simp[gvT]
 rw[e]
theorem JaS(M:List Macro)(fs:List Source)(F most D d:Int)(o rd:List Int)(out:List Token):JT [] fs F most D M o rd d out=some (.ok (F,out)):=rfl
theorem JuW(B:List Token)(hB:∀ t r,B=t::r→t.First=true):(JC B).flatten=B∧∀ L∈JC B,0<L.length∧L.getD 0 default∈B:=by
 obtain⟨h1,h2⟩:=JzH B hB
 refine⟨h1,fun L hL=>?_⟩
 obtain⟨t,r,rfl,_,_⟩:=h2 L hL
 refine⟨by simp,?_⟩
 rw[← h1,List.mem_flatten]
 exact⟨_,hL,by simp⟩
theorem Jod(B:List Token):(JC B).length≤B.length:=by
 cases B with
 | nil=>simp[JC]
 | cons t r=>simp only[JC,List.length_cons]; exact JiU r [t]
theorem JzE{A B:Type}{f:A→B}{l:List A}{x y z:List B}(h:l.map f=x++y++z):∃ a b c,l=a++(b++c)∧a.map f=x∧b.map f=y∧c.map f=z:=by
 obtain⟨l1,c,rfl,h1,h2⟩:=List.map_eq_append_iff.1 h
 obtain⟨a,b,rfl,h3,h4⟩:=List.map_eq_append_iff.1 h1
 exact⟨a,b,c,by simp,h3,h4,h2⟩
theorem Jiw{A:Type} [Inhabited A] (P R:List A) (x:A) {n:Nat} (hn:n=P.length):(P++x::R).getD n default=x:=by
 subst hn
 simp[List.getD_eq_getElem?_getD]
def Jit(G:List UInt8):List YI:=[(5,[35],true),(1,JpD,false),(1,G,false),(5,[35],true),(1,JiG,false),(1,G,false)]
def endK:List YI:=[(5,[35],true),(1,Jvd,false)]
theorem Jmz{G:List UInt8}{ks:List YI}{ts:List Token}(h:ts.map keyT=Jit G++ks++endK)(hk:∀ t r,ks=t::r→t.2.2=true):
  ∃ a1 b1 c1 a2 b2 c2 B a3 b3,JC ts=[a1,b1,c1]::[a2,b2,c2]::(JC B++[[a3,b3]])∧B.map keyT=ks∧ts=a1::b1::c1::a2::b2::c2::(B++[a3,b3]) ∧
   (keyT a1=(5,[35],true)∧keyT b1=(1,JpD,false)∧keyT c1=(1,G,false))∧(keyT a2=(5,[35],true)∧keyT b2=(1,JiG,false)∧keyT c2=(1,G,false))∧keyT a3=(5,[35],true)∧keyT b3=(1,Jvd,false):=by
 obtain⟨A,B,C,rfl,hA,hB,hC⟩:=JzE h
 unfold Jit at hA
 obtain⟨a1,A,rfl,k1,hA⟩:=List.map_eq_cons_iff.1 hA
 obtain⟨b1,A,rfl,k2,hA⟩:=List.map_eq_cons_iff.1 hA
 obtain⟨c1,A,rfl,k3,hA⟩:=List.map_eq_cons_iff.1 hA
 obtain⟨a2,A,rfl,k4,hA⟩:=List.map_eq_cons_iff.1 hA
 obtain⟨b2,A,rfl,k5,hA⟩:=List.map_eq_cons_iff.1 hA
 obtain⟨c2,A,rfl,k6,hA⟩:=List.map_eq_cons_iff.1 hA
 obtain rfl:=List.map_eq_nil_iff.1 hA
 unfold endK at hC
 obtain⟨a3,C,rfl,k7,hC⟩:=List.map_eq_cons_iff.1 hC
 obtain⟨b3,C,rfl,k8,hC⟩:=List.map_eq_cons_iff.1 hC
 obtain rfl:=List.map_eq_nil_iff.1 hC
 have f:∀ {t:Token} {x:Int×List UInt8×Bool},keyT t=x→t.First=x.2.2:=fun h=>by rw[← h]; rfl
 refine⟨a1,b1,c1,a2,b2,c2,B,a3,b3,?_,hB,rfl,⟨k1,k2,k3⟩,⟨k4,k5,k6⟩,k7,k8⟩
 have e1:KE [a3] [b3]=[[a3,b3]]:=by simp[KE,f k8]
 have e2:JC (B++[a3,b3])=JC B++[[a3,b3]]:=by
  rw[Jyn B (fun t r e=>by
   have:=hk (keyT t) (r.map keyT) (by rw[← hB,e]; rfl)
   exact this) a3 (f k7) [b3],e1]
 have e3:∀ m,KE m (B++[a3,b3])=m::JC (B++[a3,b3]):=by
  intro m
  cases B with
  | nil=>simp[KE,JC,f k7,f k8]
  | cons b B =>
   have hb:b.First=true:=hk (keyT b) (B.map keyT) (by rw[← hB]; rfl)
   simp[KE,JC,hb]
 show KE [a1] (b1::c1::a2::b2::c2::(B++[a3,b3]))=_
 simp only[KE,f k2,f k3,f k4,f k5,f k6,Bool.false_eq_true,if_false,if_true,List.cons_append,List.nil_append]
 rw[e3,e2]
section
variable (q1:Q1) (q2 q3:Q2) (p1:Q1) (p2 p3:Q2) (fs:List Source) (F most D:Int) (M:List Macro) (o rd:List Int) (d:Int) (out:List Token)
theorem Jv5{G:List UInt8}{ks:List YI}{ts:List Token}(h:ts.map keyT=Jit G++ks++endK)(hk:∀ t r,ks=t::r→t.2.2=true)(hr:∀ t∈ts,t.Hide=[])
  (hG:G≠Ji6∧G≠JjE∧G≠[100,101,102,105,110,101,100]) (hM:M.length≤20) (hMG:∀ m∈M,m.Name≠G) (hs:∀ k∈ks,k.2.1≠[35]∧k.2.1≠G∧k.2.1≠Ji6∧k.2.1≠JjE∧∀ m∈M,m.Name≠k.2.1) (hn:ks.length≤1400)
  (hF:(ks.length:Int)≤F∧F≤4000) (hm:((out.length+ks.length:Nat):Int)≤most∧most≤1500) :
  ∃ B:List Token,B.map keyT=ks∧(∀ t∈B,t∈ts)∧Jy (Jv (JD p1 p2 p3) fs most D (JC ts)) (0,((JC ts).length:Int),0,F,M,o,rd,d,[],[],out)=some (.ok (F-(ks.length:Int),M++[⟨G,false,[],false,[]⟩],o,rd,d,out++B)):=by
 obtain⟨a1,b1,c1,a2,b2,c2,B,a3,b3,hL,hB,hts,⟨k1,k2,k3⟩,⟨k4,k5,k6⟩,k7,k8⟩:=Jmz h hk
 have tx:∀ {t:Token} {x:Int×List UInt8×Bool},keyT t=x→t.Text=x.2.1∧t.Kind=x.1:=fun h=>by rw[← h]; exact⟨rfl,rfl⟩
 have hBl:B.length=ks.length:=by rw[← hB,List.length_map]
 have hfirst:∀ t r,B=t::r→t.First=true:=fun t r e=>hk (keyT t) (r.map keyT) (by rw[← hB,e]; rfl)
 obtain⟨l1,l2⟩:=JuW B hfirst
 have hlen:=Jod B
 have hdull:∀ t∈B,t.Text≠[35]∧dull (M++[⟨G,false,[],false,[]⟩]) t:=by
  intro t ht
  obtain⟨s1,s2,s3,s4,s5⟩:=hs (keyT t) (by rw[← hB]; exact List.mem_map_of_mem ht)
  refine⟨s1,⟨fun m hm=>?_,s3,s4,hr t (by rw[hts]; simp[ht])⟩⟩
  rcases List.mem_append.1 hm with hm | hm
  ·exact s5 m hm
  rw[List.mem_singleton.1 hm]; exact fun e=>s2 e.symm
 refine⟨B,hB,fun t ht=>by rw[hts]; simp[ht],?_⟩
 rw[hL]
 generalize hLs:([a1,b1,c1]::[a2,b2,c2]::(JC B++[[a3,b3]]))=lines
 have hll:lines.length=(JC B).length+3:=by rw[← hLs]; simp
 have i0:0<lines.length:=by omega
 have i1:1<lines.length:=by omega
 have i2:2+(JC B).length<lines.length:=by omega
 have i3:lines.length≤1099511627776:=by omega
 have i4:2+(JC B).length+1=lines.length:=by omega
 have i5:lines.length≤3000:=by omega
 have i6:2+(JC B).length≤lines.length:=by omega
 have g0:lines.getD 0 default=[a1,b1,c1]:=by rw[← hLs]; rfl
 have g1:lines.getD 1 default=[a2,b2,c2]:=by rw[← hLs]; rfl
 have g2:(lines.drop 2).take (JC B).length=JC B:=by rw[← hLs]; simp
 have g3:lines.getD ((JC B).length+2) default=[a3,b3]:=by rw[← hLs]; simp[List.getD_eq_getElem?_getD]
 have g4:lines.getD (2+(JC B).length) default=[a3,b3]:=by rw[Nat.add_comm]; exact g3
 have hf0:KB M c1.Text=some (-1):=JlC M (by omega) _ (by rw[(tx k3).1]; exact hMG)
 have hf2:KB M c2.Text=some (-1):=JlC M (by omega) _ (by rw[(tx k6).1]; exact hMG)
 rw[Jz]
 have s0:=Jnw (JD p1 p2 p3) fs most D lines 0 0 F M o rd d [] [] out i0 i3 g0 (by simp) (tx k1).1 (tx k1).2 (JaS M fs F most D d o rd out)
  (Jqw fs F most D M o rd d [] out a1 b1 c1 (tx k2).1 (tx k3).2 (Ju4 fs F most D M o rd d out hf0 (by rw[(tx k3).1]; exact hG.1) (by rw[(tx k3).1]; exact hG.2.1)))
 rw[show((0:Nat):Int)=0 from rfl]at s0
 rw[s0]
 simp only
 rw[Jz]
 have s1:=Jt0 (JD p1 p2 p3) fs most D lines 1 1 F M o rd d [⟨true,true,false,b1⟩] [] out i1 i3 g1 (by simp) (tx k4).1 (tx k4).2 (JaS M fs F most D d o rd out)
  (JiZ fs F most D M o rd d _ out 1 [a2,b2,c2] JiG (by simp) (tx k5).1) (JoZ _ _)
  (JzF p1 p2 p3 fs F most D M o rd d out a2 b2 c2 (tx k5).1 (tx k6).2 (Jyd (by rw[(tx k6).1]; exact hG.1) (by rw[(tx k6).1]; exact hG.2.1) (by rw[(tx k6).1]; exact hG.2.2)) hf2 (by omega))
 rw[show(!leI 0 (-1))=true from rfl,s1]
 simp only
 have s2:=Jie (JD p1 p2 p3) fs most D lines 1 F (M++[⟨c2.Text,false,[],false,[]⟩]) o rd d [⟨true,true,false,b1⟩] out i5 (JoZ ⟨true,true,false,b1⟩ []) (JC B).length 2 [] i6
  (by rw[g2]; exact fun L hL=>⟨(l2 L hL).1,(hdull _ (l2 L hL).2).1⟩) (by rw[g2,l1]; simp only[List.length_nil]; omega)
 rw[g2,l1]at s2
 rw[show(1+1:Nat)=2 from rfl,s2,(tx k6).1]
 simp only[if_true,List.nil_append]
 rw[Jz]
 have hfl:=Jo0 (M++[⟨G,false,[],false,[]⟩]) (by simp; omega) fs most D d o rd out B (by omega) F (by omega) (by omega) (fun t ht=>(hdull t ht).2)
 rw[hBl]at hfl
 obtain⟨F1,hF1⟩:∃ x:Int,x=F-(ks.length:Int):=⟨_,rfl⟩
 obtain⟨o1,ho1⟩:∃ x:List Token,x=out++B:=⟨_,rfl⟩
 rw[← hF1,← ho1]at hfl
 rw[← hF1,← ho1]
 clear s0 s1 s2
 generalize (M++[(⟨G,false,[],false,[]⟩:Macro)])=M2 at hfl ⊢
 have s3:=Jnw (JD p1 p2 p3) fs most D lines 1 (2+(JC B).length) F M2 o rd d [⟨true,true,false,b1⟩] B out i2 i3 g4 (by simp) (tx k7).1 (tx k7).2 hfl
  (JtS fs F1 most D M2 o rd d [] o1 a3 b3 ⟨true,true,false,b1⟩ (tx k8).1)
 rw[s3]
 simp only
 rw[Jz,i4,Ji3 (JD p1 p2 p3) fs most D lines _ _ o rd d _ [] _ (JaS _ fs _ most D d o rd _)]
theorem Jwi{G:List UInt8}{ks:List YI}{ts:List Token}(h:ts.map keyT=Jit G++ks++endK)(hk:∀ t r,ks=t::r→t.2.2=true)
  (hG:G≠Ji6∧G≠JjE) {kf:Int} (hMG:KB M G=some kf) (h0:0≤kf) (hs:∀ k∈ks,k.2.1≠[35]) (hn:ks.length≤1400) :
  Jy (Jv q2 fs most D (JC ts)) (0,((JC ts).length:Int),0,F,M,o,rd,d,[],[],out)=some (.ok (F,M,o,rd,d,out)):=by
 obtain⟨a1,b1,c1,a2,b2,c2,B,a3,b3,hL,hB,hts,⟨k1,k2,k3⟩,⟨k4,k5,k6⟩,k7,k8⟩:=Jmz h hk
 have tx:∀ {t:Token} {x:Int×List UInt8×Bool},keyT t=x→t.Text=x.2.1∧t.Kind=x.1:=fun h=>by rw[← h]; exact⟨rfl,rfl⟩
 have hBl:B.length=ks.length:=by rw[← hB,List.length_map]
 have hfirst:∀ t r,B=t::r→t.First=true:=fun t r e=>hk (keyT t) (r.map keyT) (by rw[← hB,e]; rfl)
 obtain⟨l1,l2⟩:=JuW B hfirst
 have hlen:=Jod B
 have hdull:∀ t∈B,t.Text≠[35]:=fun t ht=>hs (keyT t) (by rw[← hB]; exact List.mem_map_of_mem ht)
 rw[hL]
 generalize hLs:([a1,b1,c1]::[a2,b2,c2]::(JC B++[[a3,b3]]))=lines
 have hll:lines.length=(JC B).length+3:=by rw[← hLs]; simp
 have i0:0<lines.length:=by omega
 have i1:1<lines.length:=by omega
 have i2:2+(JC B).length<lines.length:=by omega
 have i3:lines.length≤1099511627776:=by omega
 have i4:2+(JC B).length+1=lines.length:=by omega
 have i5:lines.length≤3000:=by omega
 have i6:2+(JC B).length≤lines.length:=by omega
 have g0:lines.getD 0 default=[a1,b1,c1]:=by rw[← hLs]; rfl
 have g1:lines.getD 1 default=[a2,b2,c2]:=by rw[← hLs]; rfl
 have g2:(lines.drop 2).take (JC B).length=JC B:=by rw[← hLs]; simp
 have g3:lines.getD ((JC B).length+2) default=[a3,b3]:=by rw[← hLs]; simp[List.getD_eq_getElem?_getD]
 have g4:lines.getD (2+(JC B).length) default=[a3,b3]:=by rw[Nat.add_comm]; exact g3
 have hle:leI 0 kf=true:=decide_eq_true h0
 rw[Jz]
 have s0:=Jnw q2 fs most D lines 0 0 F M o rd d [] [] out i0 i3 g0 (by simp) (tx k1).1 (tx k1).2 (JaS M fs F most D d o rd out)
  (Jqw fs F most D M o rd d [] out a1 b1 c1 (tx k2).1 (tx k3).2 (Ju4 fs F most D M o rd d out (by rw[(tx k3).1]; exact hMG) (by rw[(tx k3).1]; exact hG.1) (by rw[(tx k3).1]; exact hG.2)))
 rw[show((0:Nat):Int)=0 from rfl]at s0
 rw[s0,hle]
 simp only
 rw[Jz]
 have s1:=JDy q2 fs most D lines 1 1 F M o rd d [⟨false,false,false,b1⟩] [] out i1 i3 g1 (by simp) (tx k4).1 (tx k4).2 (JaS M fs F most D d o rd out)
  (JiZ fs F most D M o rd d _ out 1 [a2,b2,c2] JiG (by simp) (tx k5).1) (JoZ _ _)
 rw[show(!true)=false from rfl,s1]
 simp only
 have s2:=Jie q2 fs most D lines 1 F M o rd d [⟨false,false,false,b1⟩] out i5 (JoZ ⟨false,false,false,b1⟩ []) (JC B).length 2 [] i6
  (by rw[g2]; exact fun L hL=>⟨(l2 L hL).1,hdull _ (l2 L hL).2⟩) (by rw[g2,l1]; simp only[List.length_nil]; omega)
 rw[g2]at s2
 rw[show(1+1:Nat)=2 from rfl,s2]
 simp only[Bool.false_eq_true,if_false]
 rw[Jz]
 have s3:=Jnw q2 fs most D lines 1 (2+(JC B).length) F M o rd d [⟨false,false,false,b1⟩] [] out i2 i3 g4 (by simp) (tx k7).1 (tx k7).2 (JaS M fs F most D d o rd out)
  (JtS fs _ most D _ o rd d [] out a3 b3 _ (tx k8).1)
 rw[s3]
 simp only
 rw[Jz,i4,Ji3 q2 fs most D lines _ _ o rd d _ [] _ (JaS _ fs _ most D d o rd _)]
end
end Go.Proofs.YtfkhlbhjhdpkoaaGreatDoor
