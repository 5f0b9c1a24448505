/- Texts one behind the other: all tokens. Plain. -/
import Derived.Test.YtfkhlbhjhdpkoaaGreatDoorZqbe
set_option linter.unusedVariables false
set_option linter.unusedSimpArgs false
namespace Go.Proofs.YtfkhlbhjhdpkoaaGreatDoor
open Go.RowKit
theorem ZK(n:Nat)(l:List UInt8)(i st:Nat)(f0:Bool):lxF (n+1) l i st f0 =
  if(skip l).2.2=false then([],some (i+(skip l).1)) else
  if l.drop (skip l).1=[] then([],none) else
  match Xa (l.drop (skip l).1) (!(f0 || (skip l).2.1) && decide (st=2)) with
  | (_,none)=>([],some (i+(skip l).1))
  | (kind,some m) =>
   (⟨kind,i+(skip l).1,m,decide (0<(skip l).1),f0 || (skip l).2.1,(l.drop (skip l).1).take m⟩::(lxF n ((l.drop (skip l).1).drop m) (i+(skip l).1+m) (Jee st ((l.drop (skip l).1).take m) (f0 || (skip l).2.1)) false).1,(lxF n ((l.drop (skip l).1).drop m) (i+(skip l).1+m) (Jee st ((l.drop (skip l).1).take m) (f0 || (skip l).2.1)) false).2):=rfl
theorem JoN:∀ (n m:Nat) (l:List UInt8) (i st:Nat) (f:Bool),l.length<n→l.length<m→lxF n l i st f=lxF m l i st f
 | 0,_,_,_,_,_,h,_=>by omega
 | _,0,_,_,_,_,_,h=>by omega
 | n+1,m+1,l,i,st,f,h1,h2=>by
  rw[ZK,ZK]
  split
  ·rfl
  split
  ·rfl
  split
  ·rfl
  rename_i kd k hp
  obtain⟨a,b⟩:=Jib hp
  rw[List.length_drop]at b
  rw[JoN n m _ _ _ _ (by simp only[List.length_drop]; omega) (by simp only[List.length_drop]; omega)]
theorem JwK(st:Nat)(t:List UInt8):Jee st t true=Jee 0 t true:=by
 unfold Jee
 simp
theorem JzX{z:List UInt8}(hz:JhU z)(v:List UInt8):∀ (n:Nat) (x:List UInt8) (i st:Nat) (f:Bool),(x++z).length<n→(lxF n (x++z) i st f).2=none →
  ∀ n',(x++10::v).length<n'→lxF n' (x++10::v) i st f=((lxF n (x++z) i st f).1++(lxF (v.length+2) (10::v) (i+x.length) 0 true).1,(lxF (v.length+2) (10::v) (i+x.length) 0 true).2)
 | 0,_,_,_,_,h,_,_,_=>by omega
 | n+1,x,i,st,f,hn,ho,0,hn'=>by omega
 | n+1,x,i,st,f,hn,ho,n'+1,hn'=>by
  have ht:(skip (x++z)).2.2=true:=by
   rw[ZK]at ho
   by_cases h:(skip (x++z)).2.2=false
   ·rw[if_pos h]at ho; cases ho
   simpa using h
  rcases Jj3 hz v _ x (Nat.le_refl _) ht with⟨a,b⟩|⟨a,b⟩
  ·rw[ZK]at ho ⊢
   rw[ZK,b]
   have hc:¬ (skip (x++z)).2.2=false:=by rw[ht]; decide
   rw[if_neg hc]at ho ⊢
   rw[if_neg hc]
   rw[List.drop_append_of_le_length (by omega)]at ho ⊢
   rw[List.drop_append_of_le_length (by omega)]
   obtain⟨c,r,hd⟩:∃ c r,x.drop (skip (x++z)).1=c::r:=by
    cases hx:x.drop (skip (x++z)).1 with
    | nil=>have:=congrArg List.length hx; rw[List.length_drop,List.length_nil]at this; omega
    | cons c r=>exact⟨c,r,rfl⟩
   have hl:(c::r).length+(skip (x++z)).1=x.length:=by rw[← hd,List.length_drop]; omega
   rw[hd]at ho ⊢
   rw[if_neg (show ¬ c::r++z=[] by simp)]at ho ⊢
   rw[if_neg (show ¬ c::r++10::v=[] by simp)]
   cases hp:Xa (c::r++z) (!(f || (skip (x++z)).2.1) && decide (st=2)) with
   | mk kd o =>
    rw[hp]at ho
    cases o with
    | none=>cases ho
    | some m =>
     obtain⟨p1,p2⟩:=Jzk hz v c r _ kd m hp
     obtain⟨p3,_⟩:=Jib hp
     rw[p2]
     simp only at ho ⊢
     have t1:(c::r++z).take m=(c::r).take m:=List.take_append_of_le_length p1
     have t2:(c::r++10::v).take m=(c::r).take m:=List.take_append_of_le_length p1
     have t3:(c::r++z).drop m=(c::r).drop m++z:=List.drop_append_of_le_length p1
     have t4:(c::r++10::v).drop m=(c::r).drop m++10::v:=List.drop_append_of_le_length p1
     rw[t1,t3]at ho ⊢
     rw[t2,t4]
     have hm:((c::r).drop m).length+m=(c::r).length:=by rw[List.length_drop]; omega
     have ih:=JzX hz v n ((c::r).drop m) (i+(skip (x++z)).1+m) (Jee st ((c::r).take m) (f || (skip (x++z)).2.1)) false (by rw[List.length_append]at hn ⊢; omega) ho n' (by rw[List.length_append]at hn' ⊢; omega)
     rw[ih,show i+(skip (x++z)).1+m+((c::r).drop m).length=i+x.length by omega]
     rfl
  have e1:lxF (n+1) (x++z) i st f=([],none):=by
   rw[ZK,if_neg (by rw[ht]; decide),if_pos (by rw[a]; exact List.drop_of_length_le (Nat.le_refl _))]
  rw[e1,List.nil_append]
  have hk:0<(skip (10::v)).1:=by rw[JfU (by decide)]; exact Nat.succ_pos _
  have h10:(skip (10::v)).2.1=true:=by rw[JfU (by decide)]; rfl
  rw[← JoN (n'+1) (v.length+2) (10::v) (i+x.length) 0 true (by rw[List.length_append]at hn'; omega) (by simp)]
  rw[ZK,ZK,b,h10]
  simp only
  rw[show(x++10::v).drop (x.length+(skip (10::v)).1)=(10::v).drop (skip (10::v)).1 by rw[← List.drop_drop,List.drop_left]]
  simp only[Bool.or_true,Bool.not_true,Bool.false_and]
  have e2:i+(x.length+(skip (10::v)).1)=i+x.length+(skip (10::v)).1:=by omega
  have e3:decide (0<x.length+(skip (10::v)).1)=decide (0<(skip (10::v)).1):=by rw[decide_eq_true hk,decide_eq_true (by omega)]
  simp only[JwK st,e2,e3]
end Go.Proofs.YtfkhlbhjhdpkoaaGreatDoor
