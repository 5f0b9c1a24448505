/- Lines of tokens. Plain. -/
import Derived.Test.YtfkhlbhjhdpkoaaGreatDoorZpan
import Derived.Test.YtfkhlbhjhdpkoaaGreatDoorZpbg
set_option linter.unusedVariables false
set_option linter.unusedSimpArgs false
namespace Go.Proofs.YtfkhlbhjhdpkoaaGreatDoor
open Go.RowKit
theorem JA1(l:List Token)(k:Nat)(h:k<l.length):l.drop k=l.getD k default::l.drop (k+1):=by
 rw[List.drop_eq_getElem_cons h]; simp[List.getD_eq_getElem?_getD,List.getElem?_eq_getElem h]
def KE:List Token→List Token→List (List Token)
 | m,[]=>[m]
 | m,t::r=>if t.First=true then m::KE [t] r else KE (m++[t]) r
def JC:List Token→List (List Token)
 | []=>[]
 | t::r=>KE [t] r
theorem JmS(l:List Token)(n:Int)(k:Nat)(x:List (List Token))(m:List Token)(hx:x.length≤1048577)(hm:m.length≤1048577)(hk:k≤1048576):
  KC l n (k:Int) (some (x,m))=some (.inl (some (x,m++[l.getD k default]),n,((k+1:Nat):Int))):=by
 unfold KC
 show(if _ then(if _ then _ else _) else _)=_
 rw[if_pos (show x.length<4611686018427387904 from Nat.lt_of_le_of_lt hx (by decide)),Int.toNat_natCast,List.length_singleton,if_pos (show(m.length+1) * 120≤140737488355328 by omega),wN1 k (by omega)]
theorem JqL(l:List Token)(n:Int)(k:Nat)(s:JcC)(hs:JeU s≤1048577):Vr l n (k:Int) s true=KC l n (k:Int) (some (Ja6 s,[])):=by
 unfold Vr
 show(if _ then _ else _)=_
 rw[if_pos rfl,if_pos (show(JeU s+1) * 24≤140737488355328 by omega)]
theorem Jzr(l:List Token)(n:Int)(k:Nat)(s:JcC):Vr l n (k:Int) s false=KC l n (k:Int) s:=by
 unfold Vr
 show(if _ then _ else _)=_
 rw[if_neg (by decide)]
theorem JtB(l:List Token)(k:Nat)(s:JcC):JcB l (s,(l.length:Int),(k:Int))=if k<l.length then Vr l (l.length:Int) (k:Int) s ((l.getD k default).First || decide (k=0)) else some (.inr (Ja6 s)):=by
 unfold JcB
 show(if _ then _ else _)=_
 rw[JC1,Int.toNat_natCast]
 by_cases h:k<l.length
 ·rw[if_pos (decide_eq_true (show(k:Int)<l.length by omega)),if_pos (show(0:Int)≤k∧k<l.length by omega),if_pos h]
  cases hf:(l.getD k default).First
  ·rw[if_neg (by decide),JCo]
   congr 1
   rw[Bool.false_or]
   congr 1
   apply propext; omega
  rw[if_pos rfl]; rfl
 rw[if_neg (by simp; omega),if_neg h]; rfl
theorem JiT(l:List Token)(hl:l.length≤1048576):∀ (n k:Nat) (x:List (List Token)) (m:List Token),0<k→k≤l.length→l.length-k≤n→x.length≤k→m.length≤k→Jy (JcB l) (some (x,m),(l.length:Int),(k:Int))=some (x++KE m (l.drop k))
 | n,k,x,m,h0,hk,hn,hx,hm=>by
  rw[JgW,JtB]
  by_cases h:k<l.length
  ·rw[if_pos h,JA1 l k h,decide_eq_false (show ¬ k=0 by omega),Bool.or_false]
   cases n with
   | zero=>omega
   | succ n =>
    cases hf:(l.getD k default).First
    ·rw[Jzr,JmS l _ k x m (by omega) (by omega) (by omega)]
     show Jy _ _=_
     rw[JiT l hl n (k+1) _ _ (by omega) (by omega) (by omega) (by omega) (by rw[List.length_append,List.length_singleton]; omega)]
     simp only[KE,hf,if_false,Bool.false_eq_true]
    rw[JqL l _ k _ (by show x.length+1≤_; omega)]
    show JcS _ (KC l _ _ (some (x++[m],[])))=_
    rw[JmS l _ k _ _ (by rw[List.length_append,List.length_singleton]; omega) (by simp) (by omega)]
    show Jy _ _=_
    rw[List.nil_append,JiT l hl n (k+1) _ _ (by omega) (by omega) (by omega) (by rw[List.length_append,List.length_singleton]; omega) (by rw[List.length_singleton]; omega)]
    simp only[KE,hf,if_true,List.append_assoc,List.singleton_append]
  rw[if_neg h,List.drop_of_length_le (by omega)]
  rfl
theorem JzS(l:List Token)(hl:l.length≤1048576):JcI l=some (JC l):=by
 unfold JcI
 rw[JgW]
 have:=JtB l 0 none
 rw[show((0:Nat):Int)=0 from rfl]at this
 rw[this]
 cases l with
 | nil=>rfl
 | cons t r =>
  have e0:(t::r).getD 0 default=t:=rfl
  have j3:=JqL (t::r) ((t::r).length:Int) 0 none (by decide)
  rw[show((0:Nat):Int)=0 from rfl]at j3
  have j2:=JmS (t::r) ((t::r).length:Int) 0 [] [] (by simp) (by simp) (by omega)
  rw[show((0:Nat):Int)=0 from rfl]at j2
  rw[if_pos (by simp),decide_eq_true rfl,Bool.or_true,j3]
  show JcS _ (KC _ _ _ (some ([],[])))=_
  rw[j2]
  show Jy _ _=_
  have:=JiT (t::r) hl _ 1 [] [t] (by omega) (by simp) (Nat.le_refl _) (by simp) (by simp)
  rw[e0,List.nil_append,this]
  rfl
def Jou(m:List Token):Prop:=∃ t r,m=t::r∧t.First=true∧∀ x∈r,x.First=false
theorem JkL:∀ (r m:List Token),Jou m→(KE m r).flatten=m++r∧∀ x∈KE m r,Jou x
 | [],m,h=>by simp[KE,h]
 | t::r,m,h=>by
  simp only[KE]
  by_cases hf:t.First=true
  ·rw[if_pos hf]
   obtain⟨h1,h2⟩:=JkL r [t] ⟨t,[],rfl,hf,by simp⟩
   refine⟨by simp[h1],fun x hx=>?_⟩
   rcases List.mem_cons.1 hx with rfl | hx
   ·exact h
   exact h2 x hx
  rw[if_neg hf]
  have hm:Jou (m++[t]):=by
   obtain⟨a,s,rfl,h1,h2⟩:=h
   refine⟨a,s++[t],rfl,h1,fun x hx=>?_⟩
   rcases List.mem_append.1 hx with hx | hx
   ·exact h2 x hx
   rw[List.mem_singleton.1 hx]; simpa using hf
  obtain⟨h1,h2⟩:=JkL r (m++[t]) hm
  exact⟨by simp[h1],h2⟩
theorem JzH(l:List Token)(h:∀ t r,l=t::r→t.First=true):(JC l).flatten=l∧∀ x∈JC l,Jou x:=by
 cases l with
 | nil=>simp[JC]
 | cons t r=>exact JkL r [t] ⟨t,[],rfl,h t r rfl,by simp⟩
theorem JsX:∀ (n:Nat) (l:List UInt8) (i st:Nat) (f:Bool),(lxF n l i st f).1.length≤l.length∧∀ t∈(lxF n l i st f).1,t.txt.length≤l.length
 | 0,l,i,st,f=>by simp[lxF]
 | n+1,l,i,st,f=>by
  unfold lxF
  split
  ·simp
  split
  ·simp
  split
  ·simp
  rename_i kind m hp
  have hm:=JiY hp
  have hd:(l.drop (skip l).1).length≤l.length:=by simp
  obtain⟨h1,h2⟩:=JsX n ((l.drop (skip l).1).drop m) (i+(skip l).1+m) (JeM st ((l.drop (skip l).1).take m) (f || (skip l).2.1)) false
  rw[List.length_drop]at h1 h2
  refine⟨?_,fun t ht=>?_⟩
  ·simp only[List.length_cons]; omega
  rcases List.mem_cons.1 ht with rfl | ht
  ·simp only[List.length_take]; omega
  have:=h2 t ht; omega
theorem Jza(n:Nat)(l:List UInt8)(i st:Nat)(t:Raw)(r:List Raw)(h:(lxF n l i st true).1=t::r):t.fst=true:=by
 cases n with
 | zero=>simp[lxF]at h
 | succ n =>
  unfold lxF at h
  split at h
  ·simp at h
  split at h
  ·simp at h
  split at h
  ·simp at h
  simp only[List.cons.injEq]at h
  rw[← h.1]; rfl
theorem JvZ(file:Int)(text:List UInt8):(Jfz file text).1.length≤3000∧(∀ t∈(Jfz file text).1,t.Text.length≤3000∧t.Hide=[]∧t.Calls=[])∧∀ t r,(Jfz file text).1=t::r→t.First=true:=by
 unfold Jfz
 split
 ·simp
 rename_i h
 have hl:=Jte text
 obtain⟨h1,h2⟩:=JsX ((JB text).length+1) (JB text) 0 0 true
 have h3:=Jza ((JB text).length+1) (JB text) 0 0
 unfold raws
 generalize lxF ((JB text).length+1) (JB text) 0 0 true=z at *
 obtain⟨ts,o⟩:=z
 cases o with
 | none =>
  refine⟨by simp only[List.length_map]; simp only at h1; omega,fun t ht=>?_,fun t r e=>?_⟩
  ·obtain⟨a,ha,rfl⟩:=List.mem_map.1 ht
   exact⟨by have:=h2 a ha; show a.txt.length≤3000; omega,rfl,rfl⟩
  cases ts with
  | nil=>simp at e
  | cons a s =>
   simp only[List.map_cons,List.cons.injEq]at e
   rw[← e.1]
   exact h3 a s rfl
 | some p=>simp
end Go.Proofs.YtfkhlbhjhdpkoaaGreatDoor
