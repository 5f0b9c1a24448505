/- Texts one behind the other: what their tokens are,wherever they stand. Plain. -/
import Derived.Test.YtfkhlbhjhdpkoaaGreatDoorZqbk
set_option linter.unusedVariables false
set_option linter.unusedSimpArgs false
namespace Go.Proofs.YtfkhlbhjhdpkoaaGreatDoor
open Go.RowKit
def keyR(t:Raw):Int×List UInt8×Bool:=(t.kind,t.txt,t.fst)
def lxK(x:List Raw×Option Nat):List YL×Bool:=(x.1.map keyR,x.2.isNone)
theorem JzB:∀ (n:Nat) (l:List UInt8) (i j st:Nat) (f:Bool),lxK (lxF n l i st f)=lxK (lxF n l j st f)
 | 0,_,_,_,_,_=>rfl
 | n+1,l,i,j,st,f=>by
  rw[ZK,ZK]
  split
  ·rfl
  split
  ·rfl
  split
  ·rfl
  rename_i kd k hp
  have ih:=JzB n ((l.drop (skip l).1).drop k) (i+(skip l).1+k) (j+(skip l).1+k) (Jee st ((l.drop (skip l).1).take k) (f || (skip l).2.1)) false
  unfold lxK at ih ⊢
  simp only[Prod.mk.injEq]at ih ⊢
  exact⟨by rw[List.map_cons,List.map_cons,ih.1]; rfl,ih.2⟩
theorem Jic{x:List Raw×Option Nat}{ks:List YL}(h:lxK x=(ks,true)):x.2=none∧x.1.map keyR=ks:=by
 unfold lxK at h
 simp only[Prod.mk.injEq]at h
 exact⟨by simpa using h.2,h.1⟩
def keyT(t:Token):Int×List UInt8×Bool:=(t.Kind,t.Text,t.First)
theorem Jh0{k:Int}{text:List UInt8}(h:(Kt k text).2.Err=0):lxK (raws text)=((Kt k text).1.map keyT,true):=by
 unfold Kt at *
 split at h
 ·cases h
 rename_i hl
 rw[if_neg hl]
 generalize raws text=x at *
 obtain⟨ts,o⟩:=x
 cases o with
 | none =>
  simp only[lxK,Option.isNone_none,Prod.mk.injEq,and_true]
  rw[List.map_map]; rfl
 | some p=>simp at h
theorem Jl2(c:Token)(hc:c.First=true)(r:List Token):∀ (B m:List Token),Xq m (B++c::r)=Xq m B++Xq [c] r
 | [],m=>by simp[Xq,hc]
 | b::B,m=>by
  simp only[List.cons_append,Xq]
  split
  ·rw[Jl2 c hc r B [b],List.cons_append]
  exact Jl2 c hc r B (m++[b])
theorem Jkg:∀ (l m:List Token),(Xq m l).length≤l.length+1
 | [],m=>by simp[Xq]
 | t::l,m=>by
  simp only[Xq]
  split
  ·have:=Jkg l [t]; simp; omega
  have:=Jkg l (m++[t]); simp; omega
theorem JyF(B:List Token)(hB:∀ t r,B=t::r→t.First=true)(c:Token)(hc:c.First=true)(r:List Token):VJ (B++c::r)=VJ B++Xq [c] r:=by
 cases B with
 | nil=>rfl
 | cons b B=>exact Jl2 c hc r B [b]
end Go.Proofs.YtfkhlbhjhdpkoaaGreatDoor
