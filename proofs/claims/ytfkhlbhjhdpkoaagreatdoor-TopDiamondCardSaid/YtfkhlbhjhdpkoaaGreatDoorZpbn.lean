/- Texts one behind the other: what their tokens are,wherever they stand. Plain. -/
import Derived.Test.YtfkhlbhjhdpkoaaGreatDoorZpbk
set_option linter.unusedVariables false
set_option linter.unusedSimpArgs false
namespace Go.Proofs.YtfkhlbhjhdpkoaaGreatDoor
open Go.RowKit
def keyR(t:Raw):Int×List UInt8×Bool:=(t.kind,t.txt,t.fst)
def lxK(x:List Raw×Option Nat):List YI×Bool:=(x.1.map keyR,x.2.isNone)
theorem Jvh:∀ (n:Nat) (l:List UInt8) (i j st:Nat) (f:Bool),lxK (lxF n l i st f)=lxK (lxF n l j st f)
 | 0,_,_,_,_,_=>rfl
 | n+1,l,i,j,st,f=>by
  rw[XP,XP]
  split
  ·rfl
  split
  ·rfl
  split
  ·rfl
  rename_i kd k hp
  have ih:=Jvh n ((l.drop (skip l).1).drop k) (i+(skip l).1+k) (j+(skip l).1+k) (JeM st ((l.drop (skip l).1).take k) (f || (skip l).2.1)) false
  unfold lxK at ih ⊢
  simp only[Prod.mk.injEq]at ih ⊢
  exact⟨by rw[List.map_cons,List.map_cons,ih.1]; rfl,ih.2⟩
theorem JD8(n:Nat)(v:List UInt8)(i st:Nat)(f:Bool):lxK (lxF n (10::v) i st f)=lxK (lxF n v (i+1) 0 true):=by
 cases n with
 | zero=>rfl
 | succ n =>
  have hs:skip (10::v)=((skip v).1+1,true,(skip v).2.2):=by rw[JdX (by decide)]; rfl
  rw[XP,XP,hs]
  simp only[Bool.or_true,Bool.not_true,Bool.false_and,Bool.true_or,List.drop_succ_cons]
  split
  ·rfl
  split
  ·rfl
  have e:i+((skip v).1+1)=i+1+(skip v).1:=by omega
  rw[e]
  split
  ·rfl
  rename_i kd k hp
  simp only[Jmw st,lxK,List.map_cons,keyR]
theorem Jhb:∀ (l:List UInt8) (k i a:Nat),sp k (i+a) l=(sp k i l).map fun p=>(p.1,p.2+a)
 | [],_,_,_=>by simp[sp]
 | c::r,k+1,i,a=>by
  simp only[sp]
  rw[show i+a+1=i+1+a by omega,Jhb r k (i+1) a]
 | c::r,0,i,a=>by
  simp only[sp]
  rw[show i+a+1=i+1+a by omega]
  split
  ·exact Jhb r _ (i+1) a
  split
  ·exact Jhb r 0 (i+1) a
  rw[Jhb r 0 (i+1) a]; rfl
theorem JDH(l:List UInt8)(k i:Nat):(sp k i l).map (·.1)=(sp k 0 l).map (·.1):=by
 have:=Jhb l k 0 i
 rw[Nat.zero_add]at this
 rw[this,List.map_map]
 rfl
theorem JuU(l:List UInt8)(i:Nat)(h:∀ c∈l,c≠92∧c≠13):(sp 0 i l).map (·.1)=l:=by
 have:=Jve [] l i h
 rw[List.append_nil]at this
 rw[this,List.map_append]
 simp[sp,List.zipIdx_map_fst]
theorem JBc(pre s suf:List UInt8)(hp:∀ c∈pre,c≠92∧c≠13)(hs:shut s)(hf:∀ c∈suf,c≠92∧c≠13):
  ∃ u z,Jgg z∧JB s=u++z∧JB (pre++10::(s++10::suf))=pre++10::(u++10::suf):=by
 obtain⟨P,h1,h2⟩:=Jn1 (10::suf) rfl s 0 (pre.length+1) (by omega) hs
 have h3:(sp 0 (pre.length+1) s).map (·.1)=JB s:=by rw[JDH]; rfl
 have h4:JB (pre++10::(s++10::suf))=pre++10::(P.map (·.1)++10::suf):=by
  have e:=Jve (s++10::suf) (pre++[10]) 0 (fun c hc=>by
   rcases List.mem_append.1 hc with hc | hc
   ·exact hp c hc
   rw[List.mem_singleton.1 hc]; decide)
  have e0:(pre++[10]).length=pre.length+1:=by simp
  unfold JB spAt
  rw[List.drop_zero,show pre++10::(s++10::suf)=(pre++[10])++(s++10::suf) by simp,e,Nat.zero_add,e0,h1]
  simp only[List.map_append]
  rw[JuU (10::suf) _ (fun c hc=>by
   rcases List.mem_cons.1 hc with rfl | hc
   ·decide
   exact hf c hc)]
  have e1:((pre++[10]).zipIdx).map (fun x:UInt8×Nat=>x.1)=pre++[10]:=List.zipIdx_map_fst ..
  rw[e1]; simp
 rcases h2 with h2 | h2
 ·exact⟨P.map (·.1),[],.inl rfl,by rw[← h3,h2,List.append_nil],h4⟩
 exact⟨P.map (·.1),[13],.inr rfl,by rw[← h3,h2]; simp,h4⟩
theorem Jhq{x:List Raw×Option Nat}{ks:List YI}(h:lxK x=(ks,true)):x.2=none∧x.1.map keyR=ks:=by
 unfold lxK at h
 simp only[Prod.mk.injEq]at h
 exact⟨by simpa using h.2,h.1⟩
theorem JA0(pre s suf:List UInt8)(hp:∀ c∈pre,c≠92∧c≠13)(hs:shut s)(hf:∀ c∈suf,c≠92∧c≠13){kp ks kf:List YI}
  (h1:lxK (lxF (pre.length+1) pre 0 0 true)=(kp,true)) (h2:lxK (raws s)=(ks,true)) (h3:lxK (lxF (suf.length+2) (10::suf) 0 0 true)=(kf,true)) :
  lxK (raws (pre++10::(s++10::suf)))=(kp++ks++kf,true):=by
 obtain⟨u,z,hz,g1,g2⟩:=JBc pre s suf hp hs hf
 unfold raws at h2 ⊢
 rw[g2]
 rw[g1]at h2
 obtain⟨a1,a2⟩:=Jhq h1
 have e1:=JvP (.inl rfl:Jgg []) (u++10::suf) (pre.length+1) pre 0 0 true (by simp) (by rw[List.append_nil]; exact a1) ((pre++10::(u++10::suf)).length+1) (by omega)
 rw[List.append_nil]at e1
 have e2:=JD8 ((u++10::suf).length+2) (u++10::suf) (0+pre.length) 0 true
 have h2':lxK (lxF ((u++z).length+1) (u++z) (0+pre.length+1) 0 true)=(ks,true):=by rw[Jvh _ _ _ 0]; exact h2
 obtain⟨b1,b2⟩:=Jhq h2'
 have e3:=JvP hz suf ((u++z).length+1) u (0+pre.length+1) 0 true (by omega) b1 ((u++10::suf).length+2) (by omega)
 have e4:lxK (lxF (suf.length+2) (10::suf) (0+pre.length+1+u.length) 0 true)=(kf,true):=by rw[Jvh _ _ _ 0]; exact h3
 obtain⟨c1,c2⟩:=Jhq e4
 rw[e3]at e2
 have e5:lxK (lxF ((u++10::suf).length+2) (10::(u++10::suf)) (0+pre.length) 0 true)=(ks++kf,true):=by
  rw[e2]
  unfold lxK
  simp only[List.map_append,b2,c2,c1]; rfl
 obtain⟨d1,d2⟩:=Jhq e5
 rw[e1]
 unfold lxK
 simp only[List.map_append,a2,d2,d1,List.append_assoc]; rfl
def keyT(t:Token):Int×List UInt8×Bool:=(t.Kind,t.Text,t.First)
def rawT(k:Int)(t:Token):Prop:=t.File=k∧t.Hide=[]∧t.Calls=[]∧t.Made=0
theorem Jhy{k:Int}{text:List UInt8}{ks:List YI}(hl:text.length≤3000)(h:lxK (raws text)=(ks,true)):
  ∃ ts,Jfz k text=(ts,⟨0,-1,0⟩)∧ts.map keyT=ks∧∀ t∈ts,rawT k t:=by
 obtain⟨a,b⟩:=Jhq h
 unfold Jfz
 rw[if_neg (by omega)]
 generalize raws text=x at *
 obtain⟨ts,o⟩:=x
 simp only at a b
 subst a
 refine⟨ts.map (tokOf k text),rfl,?_,?_⟩
 ·rw[List.map_map,← b]; rfl
 intro t ht
 obtain⟨r,_,rfl⟩:=List.mem_map.1 ht
 exact⟨rfl,rfl,rfl,rfl⟩
theorem JkU(c:Token)(hc:c.First=true)(r:List Token):∀ (B m:List Token),KE m (B++c::r)=KE m B++KE [c] r
 | [],m=>by simp[KE,hc]
 | b::B,m=>by
  simp only[List.cons_append,KE]
  split
  ·rw[JkU c hc r B [b],List.cons_append]
  exact JkU c hc r B (m++[b])
theorem JiU:∀ (l m:List Token),(KE m l).length≤l.length+1
 | [],m=>by simp[KE]
 | t::l,m=>by
  simp only[KE]
  split
  ·have:=JiU l [t]; simp; omega
  have:=JiU l (m++[t]); simp; omega
theorem Jyn(B:List Token)(hB:∀ t r,B=t::r→t.First=true)(c:Token)(hc:c.First=true)(r:List Token):JC (B++c::r)=JC B++KE [c] r:=by
 cases B with
 | nil=>rfl
 | cons b B=>exact JkU c hc r B [b]
end Go.Proofs.YtfkhlbhjhdpkoaaGreatDoor
