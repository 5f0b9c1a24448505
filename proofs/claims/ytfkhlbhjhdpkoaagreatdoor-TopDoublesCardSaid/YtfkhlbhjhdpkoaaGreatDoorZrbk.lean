/- Lines of tokens. Plain. -/
import Derived.Test.YtfkhlbhjhdpkoaaGreatDoorZran
import Derived.Test.YtfkhlbhjhdpkoaaGreatDoorZrbg
set_option linter.unusedVariables false
set_option linter.unusedSimpArgs false
namespace Go.Proofs.YtfkhlbhjhdpkoaaGreatDoor
open Go.RowKit
theorem Jz9(l:List Token)(k:Nat)(h:k<l.length):l.drop k=l.getD k default::l.drop (k+1):=by
 rw[List.drop_eq_getElem_cons h]; simp[List.getD_eq_getElem?_getD,List.getElem?_eq_getElem h]
def Jii:List Token→List Token→List (List Token)
 | m,[]=>[m]
 | m,t::r=>if t.First=true then m::Jii [t] r else Jii (m++[t]) r
def Jfq:List Token→List (List Token)
 | []=>[]
 | t::r=>Jii [t] r
theorem Jmc(l:List Token)(n:Int)(k:Nat)(x:List (List Token))(m:List Token)(hx:x.length≤1048577)(hm:m.length≤1048577)(hk:k≤1048576):
  KB l n (k:Int) (some (x,m))=some (.inl (some (x,m++[l.getD k default]),n,((k+1:Nat):Int))):=by
 unfold KB
 show(if _ then(if _ then _ else _) else _)=_
 rw[if_pos (show x.length<4611686018427387904 from Nat.lt_of_le_of_lt hx (by decide)),Int.toNat_natCast,List.length_singleton,if_pos (show(m.length+1) * 120≤140737488355328 by omega),wN1 k (by omega)]
theorem JqZ(l:List Token)(n:Int)(k:Nat)(s:Jck)(hs:JeT s≤1048577):Vu l n (k:Int) s true=KB l n (k:Int) (some (Ja7 s,[])):=by
 unfold Vu
 show(if _ then _ else _)=_
 rw[if_pos rfl,if_pos (show(JeT s+1) * 24≤140737488355328 by omega)]
theorem JyZ(l:List Token)(n:Int)(k:Nat)(s:Jck):Vu l n (k:Int) s false=KB l n (k:Int) s:=by
 unfold Vu
 show(if _ then _ else _)=_
 rw[if_neg (by decide)]
theorem JuA(l:List Token)(k:Nat)(s:Jck):Jcn l (s,(l.length:Int),(k:Int))=if k<l.length then Vu l (l.length:Int) (k:Int) s ((l.getD k default).First || decide (k=0)) else some (.inr (Ja7 s)):=by
 unfold Jcn
 show(if _ then _ else _)=_
 rw[JB3,Int.toNat_natCast]
 by_cases h:k<l.length
 ·rw[if_pos (decide_eq_true (show(k:Int)<l.length by omega)),if_pos (show(0:Int)≤k∧k<l.length by omega),if_pos h]
  cases hf:(l.getD k default).First
  ·rw[if_neg (by decide),JBK]
   congr 1
   rw[Bool.false_or]
   congr 1
   apply propext; omega
  rw[if_pos rfl]; rfl
 rw[if_neg (by simp; omega),if_neg h]; rfl
theorem JiZ(l:List Token)(hl:l.length≤1048576):∀ (n k:Nat) (x:List (List Token)) (m:List Token),0<k→k≤l.length→l.length-k≤n→x.length≤k→m.length≤k→Jt (Jcn l) (some (x,m),(l.length:Int),(k:Int))=some (x++Jii m (l.drop k))
 | n,k,x,m,h0,hk,hn,hx,hm=>by
  rw[JgL,JuA]
  by_cases h:k<l.length
  ·rw[if_pos h,Jz9 l k h,decide_eq_false (show ¬ k=0 by omega),Bool.or_false]
   cases n with
   | zero=>omega
   | succ n =>
    cases hf:(l.getD k default).First
    ·rw[JyZ,Jmc l _ k x m (by omega) (by omega) (by omega)]
     show Jt _ _=_
     rw[JiZ l hl n (k+1) _ _ (by omega) (by omega) (by omega) (by omega) (by rw[List.length_append,List.length_singleton]; omega)]
     simp only[Jii,hf,if_false,Bool.false_eq_true]
    rw[JqZ l _ k _ (by show x.length+1≤_; omega)]
    show JcF _ (KB l _ _ (some (x++[m],[])))=_
    rw[Jmc l _ k _ _ (by rw[List.length_append,List.length_singleton]; omega) (by simp) (by omega)]
    show Jt _ _=_
    rw[List.nil_append,JiZ l hl n (k+1) _ _ (by omega) (by omega) (by omega) (by rw[List.length_append,List.length_singleton]; omega) (by rw[List.length_singleton]; omega)]
    simp only[Jii,hf,if_true,List.append_assoc,List.singleton_append]
  rw[if_neg h,List.drop_of_length_le (by omega)]
  rfl
theorem Jya(l:List Token)(hl:l.length≤1048576):Jcx l=some (Jfq l):=by
 unfold Jcx
 rw[JgL]
 have:=JuA l 0 none
 rw[show((0:Nat):Int)=0 from rfl]at this
 rw[this]
 cases l with
 | nil=>rfl
 | cons t r =>
  have e0:(t::r).getD 0 default=t:=rfl
  have j3:=JqZ (t::r) ((t::r).length:Int) 0 none (by decide)
  rw[show((0:Nat):Int)=0 from rfl]at j3
  have j2:=Jmc (t::r) ((t::r).length:Int) 0 [] [] (by simp) (by simp) (by omega)
  rw[show((0:Nat):Int)=0 from rfl]at j2
  rw[if_pos (by simp),decide_eq_true rfl,Bool.or_true,j3]
  show JcF _ (KB _ _ _ (some ([],[])))=_
  rw[j2]
  show Jt _ _=_
  have:=JiZ (t::r) hl _ 1 [] [t] (by omega) (by simp) (Nat.le_refl _) (by simp) (by simp)
  rw[e0,List.nil_append,this]
  rfl
theorem JpZ:∀ (n:Nat) (l:List UInt8) (i st:Nat) (f:Bool),(lxF n l i st f).1.length≤l.length∧∀ t∈(lxF n l i st f).1,t.txt.length≤l.length
 | 0,l,i,st,f=>by simp[lxF]
 | n+1,l,i,st,f=>by
  unfold lxF
  split
  ·simp
  split
  ·simp
  split
  ·simp
  rename_i kind m hp
  have hm:=Js0 hp
  have hd:(l.drop (skip l).1).length≤l.length:=by simp
  obtain⟨h1,h2⟩:=JpZ n ((l.drop (skip l).1).drop m) (i+(skip l).1+m) (Jnt st ((l.drop (skip l).1).take m) (f || (skip l).2.1)) false
  rw[List.length_drop]at h1 h2
  refine⟨?_,fun t ht=>?_⟩
  ·simp only[List.length_cons]; omega
  rcases List.mem_cons.1 ht with rfl | ht
  ·simp only[List.length_take]; omega
  have:=h2 t ht; omega
theorem JyU(n:Nat)(l:List UInt8)(i st:Nat)(t:Raw)(r:List Raw)(h:(lxF n l i st true).1=t::r):t.fst=true:=by
 cases n with
 | zero=>simp[lxF]at h
 | succ n =>
  unfold lxF at h
  split at h
  ·simp at h
  split at h
  ·simp at h
  split at h
  ·simp at h
  simp only[List.cons.injEq]at h
  rw[← h.1]; rfl
theorem Ju3(file:Int)(text:List UInt8):(Jcb file text).1.length≤3000∧(∀ t∈(Jcb file text).1,t.Text.length≤3000∧t.Hide=[]∧t.Calls=[])∧∀ t r,(Jcb file text).1=t::r→t.First=true:=by
 unfold Jcb
 split
 ·simp
 rename_i h
 have hl:=Jsk text
 obtain⟨h1,h2⟩:=JpZ ((JJ text).length+1) (JJ text) 0 0 true
 have h3:=JyU ((JJ text).length+1) (JJ text) 0 0
 unfold raws
 generalize lxF ((JJ text).length+1) (JJ text) 0 0 true=z at *
 obtain⟨ts,o⟩:=z
 cases o with
 | none =>
  refine⟨by simp only[List.length_map]; simp only at h1; omega,fun t ht=>?_,fun t r e=>?_⟩
  ·obtain⟨a,ha,rfl⟩:=List.mem_map.1 ht
   exact⟨by have:=h2 a ha; show a.txt.length≤3000; omega,rfl,rfl⟩
  cases ts with
  | nil=>simp at e
  | cons a s =>
   simp only[List.map_cons,List.cons.injEq]at e
   rw[← e.1]
   exact h3 a s rfl
 | some p=>simp
end Go.Proofs.YtfkhlbhjhdpkoaaGreatDoor
