/- A macro without parameters whose body is two names: one step of the expansion. Plain. -/
import Derived.Test.YtfkhlbhjhdpkoaaGreatDoorZrbm
set_option linter.unusedVariables false
set_option linter.unusedSimpArgs false
set_option maxHeartbeats 4000000
namespace Go.Proofs.YtfkhlbhjhdpkoaaGreatDoor
open Go.RowKit
set_option maxHeartbeats 1000000
theorem Zo{S R:Type}{b:S→Option (S ⊕ R)}{s s':S}(h:b s=some (.inl s')):Jt b s=Jt b s':=by rw[Kv,h]
theorem lend{S R:Type}{b:S→Option (S ⊕ R)}{s:S}{r:R}(h:b s=some (.inr r)):Jt b s=some r:=by rw[Kv,h]
theorem JA1(a b:List (List UInt8))(ha:a.length≤1000)(hb:b.length≤1000):KE [a,b]=some (a++b):=by
 have h1:JC [a,b] (0,2,0)=some (.inl ((a.length:Int),2,1)):=by
  simp only[JC]
  rw[if_pos (by decide),if_pos (by simp)]
  show(if ltI (IntKind.i64.wrap (0+(a.length:Int))) 0=true then none else some (Sum.inl (IntKind.i64.wrap (0+(a.length:Int)),(2:Int),IntKind.i64.wrap (0+1))))=_
  rw[wr _ (by omega),wr _ (by omega),if_neg (by simp only[ltI,decide_eq_true_eq]; omega),Int.zero_add,Int.zero_add]
 have h2:JC [a,b] ((a.length:Int),2,1)=some (.inl ((a.length:Int)+(b.length:Int),2,2)):=by
  simp only[JC]
  rw[if_pos (by decide),if_pos (by simp)]
  show(if ltI (IntKind.i64.wrap ((a.length:Int)+(b.length:Int))) 0=true then none else some (Sum.inl (IntKind.i64.wrap ((a.length:Int)+(b.length:Int)),(2:Int),IntKind.i64.wrap (1+1))))=_
  rw[wr _ (by omega),wr _ (by omega),if_neg (by simp only[ltI,decide_eq_true_eq]; omega)]
  rfl
 have g1:JE [a,b] (2,0,[])=some (.inl (2,1,a)):=by
  simp only[JE]
  rw[if_pos (by decide),if_pos (by simp)]
  show(if(([]:List (List UInt8)).length+a.length) * 16≤140737488355328 then some (Sum.inl ((2:Int),IntKind.i64.wrap (0+1),([]:List (List UInt8))++a)) else none)=_
  rw[if_pos (by simp only[List.length_nil]; omega),wr _ (by omega)]
  rfl
 have g2:JE [a,b] (2,1,a)=some (.inl (2,2,a++b)):=by
  simp only[JE]
  rw[if_pos (by decide),if_pos (by simp)]
  show(if(a.length+b.length) * 16≤140737488355328 then some (Sum.inl ((2:Int),IntKind.i64.wrap (1+1),a++b)) else none)=_
  rw[if_pos (by omega),wr _ (by omega)]
  rfl
 have h3:JC [a,b] ((a.length:Int)+(b.length:Int),2,2)=some (.inr (a++b)):=by
  simp only[JC]
  rw[if_neg (by decide)]
  unfold VK
  rw[if_pos (by omega)]
  simp only[Option.bind_some,List.length_cons,List.length_nil]
  show inrO (Jt (JE [a,b]) (2,0,[]))=_
  rw[Zo g1,Zo g2,lend (r:=a++b) (by simp only[JE]; rw[if_neg (by decide)]; rfl)]
  rfl
 unfold KE
 show Jt (JC [a,b]) (0,2,0)=_
 rw[Zo h1,Zo h2,lend h3]
theorem JAH(a b:List Call)(ha:a.length≤1000)(hb:b.length≤1000):Kk [a,b]=some (a++b):=by
 have h1:Jz [a,b] (0,2,0)=some (.inl ((a.length:Int),2,1)):=by
  simp only[Jz]
  rw[if_pos (by decide),if_pos (by simp)]
  show(if ltI (IntKind.i64.wrap (0+(a.length:Int))) 0=true then none else some (Sum.inl (IntKind.i64.wrap (0+(a.length:Int)),(2:Int),IntKind.i64.wrap (0+1))))=_
  rw[wr _ (by omega),wr _ (by omega),if_neg (by simp only[ltI,decide_eq_true_eq]; omega),Int.zero_add,Int.zero_add]
 have h2:Jz [a,b] ((a.length:Int),2,1)=some (.inl ((a.length:Int)+(b.length:Int),2,2)):=by
  simp only[Jz]
  rw[if_pos (by decide),if_pos (by simp)]
  show(if ltI (IntKind.i64.wrap ((a.length:Int)+(b.length:Int))) 0=true then none else some (Sum.inl (IntKind.i64.wrap ((a.length:Int)+(b.length:Int)),(2:Int),IntKind.i64.wrap (1+1))))=_
  rw[wr _ (by omega),wr _ (by omega),if_neg (by simp only[ltI,decide_eq_true_eq]; omega)]
  rfl
 have g1:JA [a,b] ([],2,0)=some (.inl (a,2,1)):=by
  simp only[JA]
  rw[if_pos (by decide),if_pos (by simp)]
  show(if(([]:List Call).length+a.length) * 32≤140737488355328 then some (Sum.inl (([]:List Call)++a,(2:Int),IntKind.i64.wrap (0+1))) else none)=_
  rw[if_pos (by simp only[List.length_nil]; omega),wr _ (by omega)]
  rfl
 have g2:JA [a,b] (a,2,1)=some (.inl (a++b,2,2)):=by
  simp only[JA]
  rw[if_pos (by decide),if_pos (by simp)]
  show(if(a.length+b.length) * 32≤140737488355328 then some (Sum.inl (a++b,(2:Int),IntKind.i64.wrap (1+1))) else none)=_
  rw[if_pos (by omega),wr _ (by omega)]
  rfl
 have h3:Jz [a,b] ((a.length:Int)+(b.length:Int),2,2)=some (.inr (a++b)):=by
  simp only[Jz]
  rw[if_neg (by decide)]
  unfold K5
  rw[if_pos (by omega)]
  simp only[Option.bind_some,List.length_cons,List.length_nil]
  show inrO (Jt (JA [a,b]) ([],2,0))=_
  rw[Zo g1,Zo g2,lend (r:=a++b) (by simp only[JA]; rw[if_neg (by decide)]; rfl)]
  rfl
 unfold Kk
 show Jt (Jz [a,b]) (0,2,0)=_
 rw[Zo h1,Zo h2,lend h3]
theorem Ju2(l:List (List UInt8))(hl:l.length≤1099511627776)(s:List UInt8):JU l s=some (decide (s∈l)):=by
 unfold JU JP
 rw[Jxi l (fun x=>decide (s=x)) (fun j=>(j:Int)) (-1) (fun j hj=>?_)]
 ·simp only[Option.bind_some,leI]
  congr 1
  rw[Bool.eq_iff_iff]
  by_cases h:s∈l
  ·have:(l.any fun x=>decide (s=x))=true:=by simpa using h
   rw[if_pos this]
   simp[h]
  have:¬ (l.any fun x=>decide (s=x))=true:=by simpa using h
  rw[if_neg this]
  simp[h]
 simp only[K6,ltI,eqS,decide_eq_true_eq,Int.toNat_natCast,inrO,Option.map_some]
 by_cases h:j<l.length
 ·rw[if_pos (by omega),if_pos (by omega),if_pos h,wN1 j (by omega)]
 rw[if_neg (by omega),if_neg h]
theorem JoV:∀ (p:List UInt8) (l:List (List UInt8)) (x:List UInt8),x∈goC p l→x∈l
 | _,[],_,h=>h
 | p,y::r,x,h=>by
  simp only[goC]at h
  split at h
  ·exact List.mem_cons_of_mem _ (JoV y r x h)
  rcases List.mem_cons.1 h with rfl | h
  ·simp
  exact List.mem_cons_of_mem _ (JoV y r x h)
theorem JuJ(l:List (List UInt8))(x:List UInt8)(h:x∈JT l):x∈l:=by
 cases l with
 | nil=>exact h
 | cons y r =>
  rcases List.mem_cons.1 h with rfl | h
  ·simp
  exact List.mem_cons_of_mem _ (JoV y r x h)
def hidT(hd:List (List UInt8))(cs:List Call)(b:Token):Token:=⟨b.Kind,b.Text,b.Space,b.First,b.File,b.At,b.End,b.Line,JT (Jb5 (b.Hide++hd)),cs++b.Calls,b.Made⟩
theorem JzS(hd:List (List UInt8))(cs:List Call)(x y:Token)(h1:hd.length≤1000)(h2:cs.length≤1000)(hx:x.Hide.length≤1000∧x.Calls.length≤1000)(hy:y.Hide.length≤1000∧y.Calls.length≤1000):
  Jes hd cs [x,y]=some [hidT hd cs x,hidT hd cs y]:=by
 have srt:∀ t:Token,t.Hide.length≤1000→KS (t.Hide++hd)=some ()∧Kz (Jb5 (t.Hide++hd))=some ():=by
  intro t ht
  unfold KS Kz
  rw[Jgv,List.length_append,if_pos (by omega)]
  exact⟨rfl,rfl⟩
 have g1:VA hd cs (2,0,[x,y])=some (.inl (2,1,[hidT hd cs x,y])):=by
  simp only[VA,Int.toNat_zero,List.getD_cons_zero,JA1 x.Hide hd hx.1 h1,Option.bind_some,(srt x hx.1).1,(srt x hx.1).2,JAH cs x.Calls h2 hx.2]
  rfl
 have g2:VA hd cs (2,1,[hidT hd cs x,y])=some (.inl (2,2,[hidT hd cs x,hidT hd cs y])):=by
  simp only[VA,show(1:Int).toNat=1 from rfl,List.getD_cons_succ,List.getD_cons_zero,JA1 y.Hide hd hy.1 h1,Option.bind_some,(srt y hy.1).1,(srt y hy.1).2,JAH cs y.Calls h2 hy.2]
  rfl
 unfold Jes
 show Jt (VA hd cs) (2,0,[x,y])=_
 rw[Zo g1,Zo g2,lend (r:=[hidT hd cs x,hidT hd cs y]) (by simp only[VA]; rw[if_neg (by decide)]; rfl)]
def nm(t:Token):Prop:=t.Kind=1∧t.Text≠[35,35]∧t.Text≠[35]
theorem Jw9(m:Macro)(hp:m.Params=[])(x:Token)(hx:nm x):Jds m x.Kind x.Text x.Space x.First x.File x.At x.End x.Line x.Hide x.Calls x.Made=some (-1):=by
 unfold Jds
 rw[if_neg (by rw[hx.1]; decide),hp]
 unfold JP
 rw[Kv]; rfl
theorem Jry(m:Macro)(hp:m.Params=[])(x:Token)(hx:nm x)(n i:Nat)(acc:List Token)(ha:acc.length≤10)(hi:i≤10)(b:Int):
  Kr m [] false b (i:Int) acc (false,x.Kind,x.Text,x.Space,x.First,x.File,x.At,x.End,x.Line,x.Hide,x.Calls,x.Made)=some (.inl (false,(acc.length:Int),((i+1:Nat):Int),acc++[x])):=by
 simp only[Kr,Jw9 m hp x hx,Option.bind_some]
 have e1:eqS x.Text [35,35]=false:=decide_eq_false hx.2.1
 have e2:eqS x.Text [35]=false:=decide_eq_false hx.2.2
 rw[e1]
 simp only[Bool.false_eq_true,if_false,Vm,e2,KJ]
 rw[if_neg (by decide)]
 simp only[KI,Bool.false_eq_true,if_false,List.length_singleton]
 rw[if_neg (by decide),if_pos (by omega)]
 simp only[Vp,wN1 i (by omega)]
theorem JxT(m:Macro)(hp:m.Params=[])(x y:Token)(hx:nm x)(hy:nm y)(hb:m.Body=[x,y])(M:List Macro)(fs:List Source)(f most:Int):Xl m [] M fs f most=some [x,y]:=by
 have g1:J5 m [] (false,0,0,[])=some (.inl (false,0,1,[x])):=by
  simp only[J5,hb]
  rw[if_pos (show ltI 0 (([x,y]:List Token).length:Int)=true from rfl),if_pos (by simp)]
  rw[if_pos (show ltI (IntKind.i64.wrap (0+1)) (([x,y]:List Token).length:Int)=true from rfl),if_pos (show(0:Int)≤IntKind.i64.wrap (0+1)∧(IntKind.i64.wrap (0+1)).toNat<([x,y]:List Token).length from⟨by decide,show 1<2 by decide⟩)]
  rw[if_neg (show ¬ eqS (([x,y]:List Token).getD (IntKind.i64.wrap (0+1)).toNat default).Text [35,35]=true from fun q=>hy.2.1 (of_decide_eq_true q))]
  exact Jry m hp x hx 0 0 [] (by simp) (by omega) 0
 have g2:J5 m [] (false,0,1,[x])=some (.inl (false,1,2,[x,y])):=by
  simp only[J5,hb]
  rw[if_pos (show ltI 1 (([x,y]:List Token).length:Int)=true from rfl),if_pos (by simp)]
  rw[if_neg (show ¬ ltI (IntKind.i64.wrap (1+1)) (([x,y]:List Token).length:Int)=true from Bool.false_ne_true)]
  exact Jry m hp y hy 0 1 [x] (by simp) (by omega) 0
 unfold Xl
 rw[Zo g1,Zo g2,lend (r:=[x,y]) (by simp only[J5,hb]; rw[if_neg (show ¬ ltI 2 (([x,y]:List Token).length:Int)=true from Bool.false_ne_true)]; rfl)]
def chd(t:Token)(m:Macro)(b u:Token):Prop:=u.Kind=b.Kind∧u.Text=b.Text∧u.Hide=JT (Jb5 (b.Hide++(t.Hide++[m.Name])))∧u.Calls.length=t.Calls.length+1+b.Calls.length
theorem Jzp(m:Macro)(hp:m.Params=[])(hc:m.Call=false)(x y:Token)(hx:nm x)(hy:nm y)(hb:m.Body=[x,y])(hx0:x.Hide=[]∧x.Calls=[])(hy0:y.Hide=[]∧y.Calls=[])(t:Token)(ht:t.Hide.length≤100∧t.Calls.length≤100)(M:List Macro)(fs:List Source)(f most:Int)(n:Nat)(st:List Token):
  ∃ u v,VD m t M fs f most n st=some (n,[u,v])∧chd t m x u∧chd t m y v:=by
 have key:∀ a b:Int,∃ u v,KU m t M fs f most (t.Hide++[m.Name],n,a,b)=some (n,[u,v])∧chd t m x u∧chd t m y v:=by
  intro a b
  simp only[KU,JxT m hp x y hx hy hb,Option.bind_some]
  unfold KZ
  rw[if_pos (by omega)]
  simp only[Option.bind_some,List.length_singleton]
  rw[if_pos (by omega),JzS (t.Hide++[m.Name]) (t.Calls++[(⟨m.Name,a,b⟩:Call)]) x y (by simp; omega) (by simp; omega) (by rw[hx0.1,hx0.2]; simp) (by rw[hy0.1,hy0.2]; simp)]
  simp only[Option.bind_some]
  refine⟨⟨x.Kind,x.Text,t.Space,x.First,x.File,x.At,x.End,x.Line,JT (Jb5 (x.Hide++(t.Hide++[m.Name]))),(t.Calls++[⟨m.Name,a,b⟩])++x.Calls,x.Made⟩,hidT (t.Hide++[m.Name]) (t.Calls++[(⟨m.Name,a,b⟩:Call)]) y,rfl,⟨rfl,rfl,rfl,?_⟩,⟨rfl,rfl,rfl,?_⟩⟩
  ·simp; omega
  simp[hidT]; omega
 unfold VD
 unfold VE
 rw[if_pos (by omega)]
 simp only[Option.bind_some,List.length_singleton,hc,Bool.false_eq_true,if_false]
 rw[if_pos (by omega)]
 split
 ·exact key _ _
 exact key _ _
theorem Jzn(n:Nat)(u v:Token)(st:List Token)(hn:n≤st.length)(hs:st.length≤1099511627):
  Xz n [u,v] st=some (n+2,st.take n++[v,u]):=by
 have hl:(st.take n).length=n:=by rw[List.length_take]; omega
 have g1:J0 [u,v] (1,n,st)=some (.inl (0,n+1,st.take n++[v])):=by
  simp only[J0]
  rw[if_pos (by decide),if_pos (by simp),if_pos (by simp),if_pos ⟨hn,by simp only[List.length_singleton]; omega⟩]
  rfl
 have g2:J0 [u,v] (0,n+1,st.take n++[v])=some (.inl (-1,n+2,st.take n++[v,u])):=by
  simp only[J0]
  rw[if_pos (by decide),if_pos (by simp),if_pos (by simp),if_pos ⟨by rw[List.length_append,hl]; simp,by simp only[List.length_singleton]; omega⟩]
  rw[List.take_of_length_le (by rw[List.length_append,hl]; simp),List.append_assoc]
  rfl
 unfold Xz
 show Jt (J0 [u,v]) (1,n,st)=_
 rw[Zo g1,Zo g2,lend (r:=(n+2,st.take n++[v,u])) (by simp only[J0]; rw[if_neg (by decide)]; rfl)]
abbrev ER(x:Option (GR YG (List Token×Int))):Prop:=∃ e:Int×Int×Int×Int,x=some (.er e)∧(e.1=4∨e.1=11)
theorem look(M:List Macro)(fs:List Source)(most:Int)(out st:List Token)(f:Int)(n:Nat)(t:Token)(hn:n<st.length)(hs:st.length≤1099511627)(hf:1≤f∧f≤4000)(ht:st.getD n default=t)(hk:t.Kind=1)(h1:t.Text≠JlF)(h2:t.Text≠JlH)(hh:t.Text∉t.Hide)(hl:t.Hide.length≤1000){k:Int}(hm:Vz M t.Text=some k):
  Jw M fs most (f,n+1,out,st)=Ki M fs most out st (f-1) (k,n,t.Kind,t.Text,t.Space,t.First,t.File,t.At,t.End,t.Line,t.Hide,t.Calls,t.Made):=by
 have hcont:JU t.Hide t.Text=some false:=by rw[Ju2 t.Hide (by omega),decide_eq_false hh]
 have hstep:IntKind.i64.wrap (f-1)=f-1:=wr _ (by omega)
 simp only[Jw,ltI,decide_eq_true_eq]
 rw[if_pos (by omega),JyT st n hn (by omega),ht]
 simp only[Option.bind_some,popT,XA,eqI,decide_eq_true_eq]
 rw[if_neg (by omega),hstep]
 have hg:=JwY t M fs (f-1) most h1 h2
 simp only[grB,hg,Option.bind_some,Bool.false_eq_true,if_false,VQ]
 rw[if_pos (show eqI t.Kind 1=true from decide_eq_true hk)]
 simp only[hcont,Option.bind_some,Bool.not_false,VT,if_true,hm]
theorem JC6(M:List Macro)(fs:List Source)(most:Int)(out st:List Token)(n:Nat)(hn:n<st.length)(hs:st.length≤1099511627):
  ER (Jt (Jw M fs most) (0,n+1,out,st)):=by
 rw[Kv]
 simp only[Jw,ltI,decide_eq_true_eq]
 rw[if_pos (by omega),JyT st n hn (by omega)]
 simp only[Option.bind_some,popT,XA,eqI,decide_true,if_true]
 exact⟨_,rfl,.inr rfl⟩
theorem leaf(M:List Macro)(fs:List Source)(most:Int)(out st:List Token)(f:Int)(n:Nat)(t:Token)(hn:n<st.length)(hs:st.length≤1099511627)(hf:1≤f∧f≤4000)(ht:st.getD n default=t)(hk:t.Kind=1)(h1:t.Text≠JlF)(h2:t.Text≠JlH)(hh:t.Text∉t.Hide)(hl:t.Hide.length≤1000)(hm:Vz M t.Text=some (-1))(ho:out.length≤1500):
  (1500<out.length+1∧ER (Jt (Jw M fs 1500) (f,n+1,out,st)))∨(out.length+1≤1500∧Jt (Jw M fs 1500) (f,n+1,out,st)=Jt (Jw M fs 1500) (f-1,n,out++[t],st)):=by
 have hb:=look M fs 1500 out st f n t hn hs hf ht hk h1 h2 hh hl hm
 simp only[Ki,J4,ltI,decide_eq_true_eq,List.length_singleton,if_true]at hb
 rw[if_pos (by decide),if_pos (by omega)]at hb
 by_cases h:out.length+1≤1500
 ·rw[if_neg (by omega)]at hb
  exact .inr ⟨h,Zo hb⟩
 rw[if_pos (by omega)]at hb
 refine .inl ⟨by omega,?_⟩
 rw[lend (r:=(.er (4,t.File,t.At,f-1))) (by rw[hb]; rfl)]
 exact⟨_,rfl,.inl rfl⟩
theorem two(M:List Macro)(fs:List Source)(out st:List Token)(f:Int)(n:Nat)(t:Token)(hn:n<st.length)(hs:st.length≤1000000)(hf:1≤f∧f≤4000)(ht:st.getD n default=t)(hk:t.Kind=1)(h1:t.Text≠JlF)(h2:t.Text≠JlH)(hh:t.Text∉t.Hide)(hl:t.Hide.length≤100∧t.Calls.length≤100)
  (k:Nat) (hkM:k<M.length) (hm:Vz M t.Text=some (k:Int)) (m:Macro) (hmk:M.getD k default=m) (hp:m.Params=[]) (hc:m.Call=false) (x y:Token) (hx:nm x) (hy:nm y) (hb:m.Body=[x,y]) (hx0:x.Hide=[]∧x.Calls=[]) (hy0:y.Hide=[]∧y.Calls=[]) :
  ∃ u v,chd t m x u∧chd t m y v∧Jt (Jw M fs 1500) (f,n+1,out,st)=Jt (Jw M fs 1500) (f-1,n+2,out,st.take n++[v,u]):=by
 have hb1:=look M fs 1500 out st f n t hn (by omega) hf ht hk h1 h2 hh (by omega) hm
 obtain⟨u,v,hcall,hu,hv⟩:=Jzp m hp hc x y hx hy hb hx0 hy0 t hl M fs (f-1) 1500 n st
 refine⟨u,v,hu,hv,?_⟩
 simp only[Ki,ltI,decide_eq_true_eq,Int.toNat_natCast,hmk,hc,Bool.false_eq_true,if_false]at hb1
 rw[if_neg (by omega),if_pos (by omega)]at hb1
 simp only[J4,Bool.false_eq_true,if_false,Int.toNat_natCast,hmk]at hb1
 have hcall':VD m ⟨t.Kind,t.Text,t.Space,t.First,t.File,t.At,t.End,t.Line,t.Hide,t.Calls,t.Made⟩ M fs (f-1) 1500 n st=some (n,[u,v]):=hcall
 rw[if_pos (by omega),hcall']at hb1
 simp only[Option.bind_some,Jzn n u v st (by omega) (by omega)]at hb1
 exact Zo hb1
structure Dbl (N:Nat) (nmk:Nat→List UInt8) (M:List Macro):Prop where
 len:M.length=N
 small:N≤12
 inj:∀ i j,i≤N→j≤N→nmk i=nmk j→i=j
 plain:∀ i,i≤N→nmk i≠JlF∧nmk i≠JlH∧nmk i≠[35,35]∧nmk i≠[35]
 find:∀ i,i<N→Vz M (nmk i)=some (i:Int)
 last:Vz M (nmk N)=some (-1)
 body:∀ i,i<N→∃ x y,(M.getD i default).Params=[]∧(M.getD i default).Call=false∧(M.getD i default).Name=nmk i∧(M.getD i default).Body=[x,y] ∧
  (x.Kind=1∧x.Text=nmk (i+1)∧x.Hide=[]∧x.Calls=[])∧(y.Kind=1∧y.Text=nmk (i+1)∧y.Hide=[]∧y.Calls=[])
def atD(nmk:Nat→List UInt8)(i:Nat)(t:Token):Prop:=t.Kind=1∧t.Text=nmk i∧t.Hide.length≤i∧(∀ h∈t.Hide,∃ j,j<i∧h=nmk j)∧t.Calls.length=i
def endD(N:Nat)(nmk:Nat→List UInt8)(t:Token):Prop:=t.Text=nmk N∧t.Calls.length=N
theorem JuW{N:Nat}{nmk:Nat→List UInt8}{M:List Macro}(H:Dbl N nmk M){i:Nat}(hi:i≤N){t:Token}(ht:atD nmk i t):t.Text∉t.Hide:=by
 intro q
 obtain⟨j,hj,e⟩:=ht.2.2.2.1 _ q
 rw[ht.2.1]at e
 have:=H.inj i j hi (by omega) e
 omega
theorem JvT{N:Nat}{nmk:Nat→List UInt8}{M:List Macro}(H:Dbl N nmk M){i:Nat}(hi:i<N){t:Token}(ht:atD nmk i t){b u:Token}(hm:(M.getD i default).Name=nmk i)(hb:b.Kind=1∧b.Text=nmk (i+1)∧b.Hide=[]∧b.Calls=[])(hu:chd t (M.getD i default) b u):atD nmk (i+1) u:=by
 obtain⟨c1,c2,c3,c4⟩:=hu
 obtain⟨b1,b2,b3,b4⟩:=hb
 refine⟨by rw[c1,b1],by rw[c2,b2],?_,?_,?_⟩
 ·rw[c3,b3,List.nil_append]
  have a:=Jke (Jb5 (t.Hide++[(M.getD i default).Name]))
  rw[Jgv,List.length_append]at a
  have:=ht.2.2.1
  simp only[List.length_singleton]at a
  omega
 ·intro h hh
  rw[c3,b3,List.nil_append]at hh
  have hh:=(JiR _).subset (JuJ _ _ hh)
  rcases List.mem_append.1 hh with hh | hh
  ·obtain⟨j,hj,e⟩:=ht.2.2.2.1 h hh
   exact⟨j,by omega,e⟩
  rw[List.mem_singleton.1 hh,hm]
  exact⟨i,by omega,rfl⟩
 rw[c4,b4,ht.2.2.2.2]; rfl
theorem JoA{N:Nat}{nmk:Nat→List UInt8}{M:List Macro}(H:Dbl N nmk M)(fs:List Source):∀ (k i:Nat),i+k=N→∀ (out st:List Token) (f n:Nat) (t:Token),n<st.length→n≤100+i→st.length≤2000→f≤4000→st.getD n default=t→atD nmk i t→out.length≤1500 →
  ((f<2 * 2 ^ k-1∨1500<out.length+2 ^ k)∧ER (Jt (Jw M fs 1500) ((f:Int),n+1,out,st))) ∨
  ∃ R st',Jt (Jw M fs 1500) ((f:Int),n+1,out,st)=Jt (Jw M fs 1500) (((f-(2 * 2 ^ k-1):Nat):Int),n,out++R,st')∧2 * 2 ^ k-1≤f∧(out++R).length≤1500∧R.length=2 ^ k∧(∀ r∈R,endD N nmk r)∧st'.take n=st.take n∧n≤st'.length∧st'.length≤2000
 | k,i,hik,out,st,0,n,t,hn,hni,hs,hf,ht,hat,ho=>by
  have h2:0<2 ^ k:=Nat.pow_pos (by omega)
  exact .inl ⟨.inl (by omega),JC6 M fs 1500 out st n hn (by have:=H.small; omega)⟩
 | 0,i,hik,out,st,f+1,n,t,hn,hni,hs,hf,ht,hat,ho=>by
  obtain rfl:i=N:=by omega
  have hp:=H.plain i (Nat.le_refl _)
  have hsm:=H.small
  rcases leaf M fs 1500 out st ((f+1:Nat):Int) n t hn (by omega) (by omega) ht hat.1 (by rw[hat.2.1]; exact hp.1) (by rw[hat.2.1]; exact hp.2.1) (JuW H (Nat.le_refl _) hat) (by have:=hat.2.2.1; omega) (by rw[hat.2.1]; exact H.last) ho with⟨a,b⟩|⟨a,b⟩
  ·exact .inl ⟨.inr (by simpa using a),b⟩
  refine .inr ⟨[t],st,?_,by omega,by simp; omega,rfl,fun r hr=>?_,rfl,by omega,by omega⟩
  ·rw[b]
   congr 2
   omega
  rw[List.mem_singleton.1 hr]; exact⟨hat.2.1,hat.2.2.2.2⟩
 | k+1,i,hik,out,st,f+1,n,t,hn,hni,hs,hf,ht,hat,ho=>by
  have hsm:=H.small
  have hp:=H.plain i (by omega)
  have hp1:=H.plain (i+1) (by omega)
  have hpow:2 ^ (k+1)=2 * 2 ^ k:=by rw[Nat.pow_succ]; omega
  have h2:0<2 ^ k:=Nat.pow_pos (by omega)
  obtain⟨x,y,b1,b2,b3,b4,hx,hy⟩:=H.body i (by omega)
  have hlen:=H.len
  obtain⟨u,v,hu,hv,hstep⟩:=two M fs out st ((f+1:Nat):Int) n t hn (by omega) (by omega) ht hat.1 (by rw[hat.2.1]; exact hp.1) (by rw[hat.2.1]; exact hp.2.1) (JuW H (by omega) hat) ⟨by have:=hat.2.2.1; omega,by have:=hat.2.2.2.2; omega⟩
   i (by omega) (by rw[hat.2.1]; exact H.find i (by omega)) _ rfl b1 b2 x y ⟨hx.1,by rw[hx.2.1]; exact hp1.2.2.1,by rw[hx.2.1]; exact hp1.2.2.2⟩ ⟨hy.1,by rw[hy.2.1]; exact hp1.2.2.1,by rw[hy.2.1]; exact hp1.2.2.2⟩ b4 hx.2.2 hy.2.2
  have au:=JvT H (by omega) hat b3 hx hu
  have av:=JvT H (by omega) hat b3 hy hv
  rw[show((f+1:Nat):Int)-1=(f:Int) by omega]at hstep
  have hl:(st.take n).length=n:=by rw[List.length_take]; omega
  have hl1:(st.take n++[v,u]).length=n+2:=by rw[List.length_append,hl]; rfl
  have gu:(st.take n++[v,u]).getD (n+1) default=u:=by
   rw[List.getD_eq_getElem?_getD,List.getElem?_append_right (by omega),hl,show n+1-n=1 by omega]; rfl
  rw[hstep]
  rcases JoA H fs k (i+1) (by omega) out (st.take n++[v,u]) f (n+1) u (by omega) (by omega) (by omega) (by omega) gu au ho with⟨e1,e2⟩|⟨R1,st2,r1,r2,r3,r4,r5,r6,r7,r8⟩
  ·refine .inl ⟨?_,e2⟩
   rcases e1 with e1 | e1
   ·exact .inl (by omega)
   exact .inr (by omega)
  have ht1:st2.take (n+1)=st.take n++[v]:=by
   rw[r6,List.take_append,hl,List.take_of_length_le (by omega),show n+1-n=1 by omega]; rfl
  have gv:st2.getD n default=v:=by
   rw[List.getD_eq_getElem?_getD,← List.getElem?_take_of_lt (show n<n+1 by omega),ht1,List.getElem?_append_right (by omega),hl,Nat.sub_self]; rfl
  have ht2:st2.take n=st.take n:=by
   have:=congrArg (List.take n) ht1
   rw[List.take_take,show min n (n+1)=n by omega,List.take_append_of_le_length (by omega),List.take_take,Nat.min_self]at this
   exact this
  rw[r1]
  rcases JoA H fs k (i+1) (by omega) (out++R1) st2 (f-(2 * 2 ^ k-1)) n v (by omega) (by omega) (by omega) (by omega) gv av (by omega) with⟨e1,e2⟩|⟨R2,st3,q1,q2,q3,q4,q5,q6,q7,q8⟩
  ·refine .inl ⟨?_,e2⟩
   rw[List.length_append,r4]at e1
   rcases e1 with e1 | e1
   ·exact .inl (by omega)
   exact .inr (by omega)
  refine .inr ⟨R1++R2,st3,?_,by omega,by rw[← List.append_assoc]; exact q3,by rw[List.length_append,r4,q4]; omega,fun r hr=>?_,by rw[q6,ht2],q7,q8⟩
  ·rw[q1,List.append_assoc]
   congr 2
   omega
  rcases List.mem_append.1 hr with hr | hr
  ·exact r5 r hr
  exact q5 r hr
theorem JuY{N:Nat}{nmk:Nat→List UInt8}{M:List Macro}(H:Dbl N nmk M)(fs:List Source)(t:Token)(ht:atD nmk 0 t):
  (700<2 ^ N∧∃ r:List Token×Int×Fault,JcR fs M [t] 4000 1500=some r∧(r.2.2.Err=4∨r.2.2.Err=11))∨∃ R f,JcR fs M [t] 4000 1500=some (R,f,⟨0,-1,0⟩)∧R.length=2 ^ N∧R.length≤1500∧∀ r∈R,endD N nmk r:=by
 have hall:∀ x,Jt (Jw M fs 1500) (4000,1,[],[t])=some x→Za [t] M fs 4000 1500=some x:=by
  intro x hx
  unfold Za
  rw[JBA [t] [] (by simp)]
  exact hx
 have hAlg:JfE fs M [t] 4000 1500=VV fs M [t] 4000 1500 false:=by
  unfold JfE
  rfl
 rcases JoA H fs N 0 (by omega) [] [t] 4000 0 t (by simp) (by omega) (by simp) (by omega) rfl ht (by simp) with⟨e1,e,e2,e3⟩|⟨R,st',r1,r2,r3,r4,r5,r6,r7,r8⟩
 ·refine .inl ⟨?_,?_⟩
  ·simp only[List.length_nil,Nat.zero_add]at e1
   omega
  have:=hall _ e2
  refine⟨([],0,⟨e.1,e.2.1,e.2.2.1⟩),?_,e3⟩
  unfold JcR
  rw[hAlg]
  simp only[VV,Bool.false_eq_true,if_false,this,grB]
  obtain⟨a,b,c,d⟩:=e
  simp only at e3
  rcases e3 with rfl | rfl <;> rfl
 refine .inr ⟨R,((4000-(2 * 2 ^ N-1):Nat):Int),?_,r4,by simpa using r3,r5⟩
 have hend:Jt (Jw M fs 1500) (((4000-(2 * 2 ^ N-1):Nat):Int),0,[]++R,st')=some (.ok (R,((4000-(2 * 2 ^ N-1):Nat):Int))):=by
  rw[List.nil_append]
  refine lend ?_
  simp only[Jw,ltI,decide_eq_true_eq]
  rw[if_neg (by omega)]; rfl
 have:=hall _ (r1.trans hend)
 unfold JcR
 rw[hAlg]
 simp only[VV,Bool.false_eq_true,if_false,this,grB]
 rfl
end Go.Proofs.YtfkhlbhjhdpkoaaGreatDoor
