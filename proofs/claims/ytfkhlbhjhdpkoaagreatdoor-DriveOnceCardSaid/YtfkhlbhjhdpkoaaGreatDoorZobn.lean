/- Texts one behind the other: what their tokens are,wherever they stand. Plain. -/
import Derived.Test.YtfkhlbhjhdpkoaaGreatDoorZobk
set_option linter.unusedVariables false
set_option linter.unusedSimpArgs false
namespace Go.Proofs.YtfkhlbhjhdpkoaaGreatDoor
open Go.RowKit
def keyR(t:Raw):Int×List UInt8×Bool:=(t.kind,t.txt,t.fst)
def lxK(x:List Raw×Option Nat):List YM×Bool:=(x.1.map keyR,x.2.isNone)
theorem Jwv:∀ (n:Nat) (l:List UInt8) (i j st:Nat) (f:Bool),lxK (lxF n l i st f)=lxK (lxF n l j st f)
 | 0,_,_,_,_,_=>rfl
 | n+1,l,i,j,st,f=>by
  rw[JaO,JaO]
  split
  ·rfl
  split
  ·rfl
  split
  ·rfl
  rename_i kd k hp
  have ih:=Jwv n ((l.drop (skip l).1).drop k) (i+(skip l).1+k) (j+(skip l).1+k) (Je4 st ((l.drop (skip l).1).take k) (f || (skip l).2.1)) false
  unfold lxK at ih ⊢
  simp only[Prod.mk.injEq]at ih ⊢
  exact⟨by rw[List.map_cons,List.map_cons,ih.1]; rfl,ih.2⟩
theorem JFH(n:Nat)(v:List UInt8)(i st:Nat)(f:Bool):lxK (lxF n (10::v) i st f)=lxK (lxF n v (i+1) 0 true):=by
 cases n with
 | zero=>rfl
 | succ n =>
  have hs:skip (10::v)=((skip v).1+1,true,(skip v).2.2):=by rw[Je1 (by decide)]; rfl
  rw[JaO,JaO,hs]
  simp only[Bool.or_true,Bool.not_true,Bool.false_and,Bool.true_or,List.drop_succ_cons]
  split
  ·rfl
  split
  ·rfl
  have e:i+((skip v).1+1)=i+1+(skip v).1:=by omega
  rw[e]
  split
  ·rfl
  rename_i kd k hp
  simp only[Jn0 st,lxK,List.map_cons,keyR]
theorem JiH:∀ (l:List UInt8) (k i a:Nat),sp k (i+a) l=(sp k i l).map fun p=>(p.1,p.2+a)
 | [],_,_,_=>by simp[sp]
 | c::r,k+1,i,a=>by
  simp only[sp]
  rw[show i+a+1=i+1+a by omega,JiH r k (i+1) a]
 | c::r,0,i,a=>by
  simp only[sp]
  rw[show i+a+1=i+1+a by omega]
  split
  ·exact JiH r _ (i+1) a
  split
  ·exact JiH r 0 (i+1) a
  rw[JiH r 0 (i+1) a]; rfl
theorem JFi(l:List UInt8)(k i:Nat):(sp k i l).map (·.1)=(sp k 0 l).map (·.1):=by
 have:=JiH l k 0 i
 rw[Nat.zero_add]at this
 rw[this,List.map_map]
 rfl
theorem JCX(l:List UInt8)(i:Nat)(h:∀ c∈l,c≠92∧c≠13):(sp 0 i l).map (·.1)=l:=by
 have:=Jwl [] l i h
 rw[List.append_nil]at this
 rw[this,List.map_append]
 simp[sp,List.zipIdx_map_fst]
theorem JBH(pre s suf:List UInt8)(hp:∀ c∈pre,c≠92∧c≠13)(hs:shut s)(hf:∀ c∈suf,c≠92∧c≠13):
  ∃ u z,Jhl z∧Jr s=u++z∧Jr (pre++10::(s++10::suf))=pre++10::(u++10::suf):=by
 obtain⟨P,h1,h2⟩:=Jo7 (10::suf) rfl s 0 (pre.length+1) (by omega) hs
 have h3:(sp 0 (pre.length+1) s).map (·.1)=Jr s:=by rw[JFi]; rfl
 have h4:Jr (pre++10::(s++10::suf))=pre++10::(P.map (·.1)++10::suf):=by
  have e:=Jwl (s++10::suf) (pre++[10]) 0 (fun c hc=>by
   rcases List.mem_append.1 hc with hc | hc
   ·exact hp c hc
   rw[List.mem_singleton.1 hc]; decide)
  have e0:(pre++[10]).length=pre.length+1:=by simp
  unfold Jr spAt
  rw[List.drop_zero,show pre++10::(s++10::suf)=(pre++[10])++(s++10::suf) by simp,e,Nat.zero_add,e0,h1]
  simp only[List.map_append]
  rw[JCX (10::suf) _ (fun c hc=>by
   rcases List.mem_cons.1 hc with rfl | hc
   ·decide
   exact hf c hc)]
  have e1:((pre++[10]).zipIdx).map (fun x:UInt8×Nat=>x.1)=pre++[10]:=List.zipIdx_map_fst ..
  rw[e1]; simp
 rcases h2 with h2 | h2
 ·exact⟨P.map (·.1),[],.inl rfl,by rw[← h3,h2,List.append_nil],h4⟩
 exact⟨P.map (·.1),[13],.inr rfl,by rw[← h3,h2]; simp,h4⟩
theorem JfO{x:List Raw×Option Nat}{ks:List YM}(h:lxK x=(ks,true)):x.2=none∧x.1.map keyR=ks:=by
 unfold lxK at h
 simp only[Prod.mk.injEq]at h
 exact⟨by simpa using h.2,h.1⟩
theorem Ju7(pre s suf:List UInt8)(hp:∀ c∈pre,c≠92∧c≠13)(hs:shut s)(hf:∀ c∈suf,c≠92∧c≠13){kp ks kf:List YM}
  (h1:lxK (lxF (pre.length+1) pre 0 0 true)=(kp,true)) (h2:lxK (raws s)=(ks,true)) (h3:lxK (lxF (suf.length+2) (10::suf) 0 0 true)=(kf,true)) :
  lxK (raws (pre++10::(s++10::suf)))=(kp++ks++kf,true):=by
 obtain⟨u,z,hz,g1,g2⟩:=JBH pre s suf hp hs hf
 unfold raws at h2 ⊢
 rw[g2]
 rw[g1]at h2
 obtain⟨a1,a2⟩:=JfO h1
 have e1:=JuY (.inl rfl:Jhl []) (u++10::suf) (pre.length+1) pre 0 0 true (by simp) (by rw[List.append_nil]; exact a1) ((pre++10::(u++10::suf)).length+1) (by omega)
 rw[List.append_nil]at e1
 have e2:=JFH ((u++10::suf).length+2) (u++10::suf) (0+pre.length) 0 true
 have h2':lxK (lxF ((u++z).length+1) (u++z) (0+pre.length+1) 0 true)=(ks,true):=by rw[Jwv _ _ _ 0]; exact h2
 obtain⟨b1,b2⟩:=JfO h2'
 have e3:=JuY hz suf ((u++z).length+1) u (0+pre.length+1) 0 true (by omega) b1 ((u++10::suf).length+2) (by omega)
 have e4:lxK (lxF (suf.length+2) (10::suf) (0+pre.length+1+u.length) 0 true)=(kf,true):=by rw[Jwv _ _ _ 0]; exact h3
 obtain⟨c1,c2⟩:=JfO e4
 rw[e3]at e2
 have e5:lxK (lxF ((u++10::suf).length+2) (10::(u++10::suf)) (0+pre.length) 0 true)=(ks++kf,true):=by
  rw[e2]
  unfold lxK
  simp only[List.map_append,b2,c2,c1]; rfl
 obtain⟨d1,d2⟩:=JfO e5
 rw[e1]
 unfold lxK
 simp only[List.map_append,a2,d2,d1,List.append_assoc]; rfl
def keyT(t:Token):Int×List UInt8×Bool:=(t.Kind,t.Text,t.First)
def rawT(k:Int)(t:Token):Prop:=t.File=k∧t.Hide=[]∧t.Calls=[]∧t.Made=0
theorem JiD{k:Int}{text:List UInt8}{ks:List YM}(hl:text.length≤3000)(h:lxK (raws text)=(ks,true)):
  ∃ ts,JG k text=(ts,⟨0,-1,0⟩)∧ts.map keyT=ks∧∀ t∈ts,rawT k t:=by
 obtain⟨a,b⟩:=JfO h
 unfold JG
 rw[if_neg (by omega)]
 generalize raws text=x at *
 obtain⟨ts,o⟩:=x
 simp only at a b
 subst a
 refine⟨ts.map (tokOf k text),rfl,?_,?_⟩
 ·rw[List.map_map,← b]; rfl
 intro t ht
 obtain⟨r,_,rfl⟩:=List.mem_map.1 ht
 exact⟨rfl,rfl,rfl,rfl⟩
theorem Jin{k:Int}{text:List UInt8}(h:(JG k text).2.Err=0):lxK (raws text)=((JG k text).1.map keyT,true):=by
 unfold JG at *
 split at h
 ·cases h
 rename_i hl
 rw[if_neg hl]
 generalize raws text=x at *
 obtain⟨ts,o⟩:=x
 cases o with
 | none =>
  simp only[lxK,Option.isNone_none,Prod.mk.injEq,and_true]
  rw[List.map_map]; rfl
 | some p=>simp at h
theorem JmP(c:Token)(hc:c.First=true)(r:List Token):∀ (B m:List Token),Kn m (B++c::r)=Kn m B++Kn [c] r
 | [],m=>by simp[Kn,hc]
 | b::B,m=>by
  simp only[List.cons_append,Kn]
  split
  ·rw[JmP c hc r B [b],List.cons_append]
  exact JmP c hc r B (m++[b])
theorem JkB:∀ (l m:List Token),(Kn m l).length≤l.length+1
 | [],m=>by simp[Kn]
 | t::l,m=>by
  simp only[Kn]
  split
  ·have:=JkB l [t]; simp; omega
  have:=JkB l (m++[t]); simp; omega
theorem Jzh(B:List Token)(hB:∀ t r,B=t::r→t.First=true)(c:Token)(hc:c.First=true)(r:List Token):JD (B++c::r)=JD B++Kn [c] r:=by
 cases B with
 | nil=>rfl
 | cons b B=>exact JmP c hc r B [b]
end Go.Proofs.YtfkhlbhjhdpkoaaGreatDoor
