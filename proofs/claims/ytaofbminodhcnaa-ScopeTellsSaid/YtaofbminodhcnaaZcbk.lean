/- Both scopes,step by step. Plain. -/
import Derived.Test.YtaofbminodhcnaaZcbj
set_option linter.unusedVariables false
set_option linter.unusedSimpArgs false
namespace Go.Proofs.Ytaofbminodhcnaa
open Go.RowKit
def KN(K:List KD):KD:=K.reverse.flatten
theorem JdB(R:List KD)(m:KD):KN (R++[m])=m++KN R:=by simp[KN]
theorem Jvm{A:Type}(a b:List (List UInt8×A))(s:List UInt8):xGet (a++b) s=match xGet a s with | some v=>some v | none=>xGet b s:=by
 induction a with
 | nil=>rfl
 | cons p a ih =>
  obtain⟨k,v⟩:=p
  simp only[List.cons_append,xGet]
  split
  ·rfl
  ·exact ih
def mOf(out:List Bind):MI:=(out.map fun b=>(b.Tok,b.Decl)).reverse
theorem Jrj(out:List Bind)(b:Bind):mOf (out++[b])=(b.Tok,b.Decl)::mOf out:=by simp[mOf]
theorem JrM(out:List Bind):(mOf out).length=out.length:=by simp[mOf]
section
variable {l:TL} {K R:List KD} {top:KD} {out:List Bind} {T:List Int} {t:Int} {er fi at_:Int} {m:MI} {al i_:EN}
theorem JxO(hl:TokOk l)(h:OI l K out T)(hu:Up l (T++[t]))(hK:K.length≤BL):Vn t l K out=match xGet (KN K) (tokT l t) with
  | some v=>some (.ok (out++[⟨t,v⟩]))
  | none=>some (.er ((l.getD t.toNat default).File,(l.getD t.toNat default).At)):=by
 have ht:=hu.2.1 t (by simp)
 have htx:=hl.text t.toNat (by omega)
 have key:∀ (n:Nat),n≤K.length→Jt (K0 t l K out) ((n:Int)-1)=match xGet (KN (K.take n)) (tokT l t) with
  | some v=>some (.ok (out++[⟨t,v⟩]))
  | none=>some (.er ((l.getD t.toNat default).File,(l.getD t.toNat default).At)):=by
  intro n
  induction n with
  | zero =>
   intro _
   rw[Ky]
   simp only[K0,leI,decide_eq_true_eq]
   rw[if_neg (by omega),Vk,JjL 6 ht]
   rfl
  | succ n ih =>
   intro hn
   have e1:((n+1:Nat):Int)-1=(n:Int):=by omega
   have et:K.take (n+1)=K.take n++[K.getD n []]:=by
    rw[List.getD_eq_getElem?_getD,List.getElem?_eq_getElem (by omega),Option.getD_some]
    exact(List.take_append_getElem (by omega)).symm
   rw[e1,Ky,et,JdB,Jvm]
   simp only[K0,leI,decide_eq_true_eq]
   rw[if_pos (by omega),if_pos ⟨by omega,by omega,by omega,by omega,htx⟩]
   unfold kHas kVal enH enV
   rw[Int.toNat_natCast]
   cases hx:xGet (K.getD n []) (tokT l t) with
   | some v =>
    simp only[Option.isSome_some,if_true,Option.getD_some]
    rw[if_pos (h.room hu _),Vk]
   | none =>
    unfold BL at hK
    simp only[Option.isSome_none,Bool.false_eq_true,if_false]
    rw[wrI _ (by omega),V9]
    exact ih (by omega)
 have:=key K.length (Nat.le_refl _)
 rw[List.take_length]at this
 exact this
theorem Jxl(hl:TokOk l)(h:OI l (R++[top]) out T)(hu:Up l (T++[t])):KO t l (R++[top]) out=if enH top (tokT l t)=true then some (.er ((l.getD t.toNat default).File,(l.getD t.toNat default).At)) else some (.ok (R++[(tokT l t,t)::top],out++[⟨t,t⟩])):=by
 have ht:=hu.2.1 t (by simp)
 have htx:=hl.text t.toNat (by omega)
 have hp:=h.pos
 have hk:kTop (R++[top])=top:=by
  unfold kTop
  rw[List.length_append,List.length_singleton,Nat.add_sub_cancel,List.getD_eq_getElem?_getD,List.getElem?_append_right (Nat.le_refl _),Nat.sub_self]
  rfl
 have hkp:kPut (R++[top]) (tokT l t) t=R++[(tokT l t,t)::top]:=by
  unfold kPut
  have:(R++[top]).getD ((R++[top]).length-1) []=top:=hk
  rw[this,List.length_append,List.length_singleton,Nat.add_sub_cancel,List.set_append_right _ _ (Nat.le_refl _),Nat.sub_self]
  rfl
 have hlt:top.length<9223372036854775807:=by
  have h1:=(h.map top (by simp)).1
  have h2:=h.len
  have h3:=hu.2.2
  rw[List.length_append,List.length_singleton]at h3
  omega
 unfold KO JeF
 rw[hk,if_pos ⟨hp,hlt,by omega,by omega,htx⟩,hkp]
 split
 ·rw[JjL 7 ht]; rfl
 ·rw[if_pos (h.room hu _)]
theorem Jrh(e:Int)(ht:0≤t∧t<(l.length:Int)):Xq t e l 0 fi at_ m=some (e,(l.getD t.toNat default).File,(l.getD t.toNat default).At):=by
 unfold Xq
 rw[if_pos (by decide),if_pos (by omega),if_pos (by omega)]
theorem JrN(e:Int)(h:er≠0):Xq t e l er fi at_ m=some (er,fi,at_):=by
 unfold Xq
 rw[if_neg (by simpa [eqI] using h)]
theorem Jwj(hl:TokOk l)(ht:0≤t∧t<(l.length:Int))(hm:m.length≤BL):KM al i_ t l 0 fi at_ m=match xGet al (tokT l t) with
  | some v=>some (0,fi,at_,(t,v)::m)
  | none=>some (6,(l.getD t.toNat default).File,(l.getD t.toNat default).At,m):=by
 have htx:=hl.text t.toNat (by omega)
 have hn:=hl.len
 unfold BL at hm
 unfold KM
 rw[if_pos (by omega),if_pos htx]
 have e:(l.getD t.toNat default).Text=tokT l t:=rfl
 rw[e]
 unfold enH enV
 cases hx:xGet al (tokT l t) with
 | some v =>
  simp only[Option.isSome_some,Bool.not_true,Bool.false_eq_true,if_false,Option.getD_some,XT]
  rw[if_pos (by decide),if_pos (by omega)]
 | none =>
  simp only[Option.isSome_none,Bool.not_false,if_true]
  rw[Jrh 6 ht,Option.bind_some]
  simp only[XT]
  rw[if_neg (by decide)]
theorem JrF(hl:TokOk l)(ht:0≤t∧t<(l.length:Int))(h:er≠0):KM al i_ t l er fi at_ m=some (er,fi,at_,m):=by
 have htx:=hl.text t.toNat (by omega)
 unfold KM
 rw[if_pos (by omega),if_pos htx,JrN 6 h,Option.bind_some]
 have hE:eqI er 0=false:=by simp[eqI,h]
 simp only[XT,hE,Bool.false_eq_true,if_false,ite_self]
theorem JpC(hs:(tokT l t).length≤9223372036854775807)(h1:al.length≤BL)(h2:i_.length≤BL):Ze al i_ (tokT l t) t=some ():=by
 unfold BL at h1 h2
 unfold Ze
 rw[if_pos ⟨hs,by omega,by omega⟩]
theorem JuI(hl:TokOk l)(ht:0≤t∧t<(l.length:Int))(hm:m.length≤BL)(h1:al.length≤BL)(h2:i_.length≤BL):KU al i_ t l 0 fi at_ m=if enH i_ (tokT l t)=true then some (al,i_,7,(l.getD t.toNat default).File,(l.getD t.toNat default).At,m) else some ((tokT l t,t)::al,(tokT l t,t)::i_,0,fi,at_,(t,t)::m):=by
 have htx:=hl.text t.toNat (by omega)
 have hn:=hl.len
 unfold KU
 rw[if_pos (by omega),if_pos htx]
 have e:(l.getD t.toNat default).Text=tokT l t:=rfl
 rw[e]
 split
 ·rw[Jrh 7 ht]; rfl
 ·unfold BL at hm
  rw[if_pos (by decide),if_pos (by omega)]
  simp only[ZJ]
  rw[if_pos (by omega),e,JpC htx h1 h2]
  rfl
theorem Jkt(hl:TokOk l)(ht:0≤t∧t<(l.length:Int))(h:er≠0)(h1:al.length≤BL)(h2:i_.length≤BL):∃ al' i',KU al i_ t l er fi at_ m=some (al',i',er,fi,at_,m)∧al'.length≤al.length+1∧i'.length≤i_.length+1:=by
 have htx:=hl.text t.toNat (by omega)
 unfold KU
 rw[if_pos (by omega),if_pos htx]
 have e:(l.getD t.toNat default).Text=tokT l t:=rfl
 rw[e]
 split
 ·rw[JrN 7 h]; exact⟨_,_,rfl,by omega,by omega⟩
 ·rw[if_neg (by simpa [eqI] using h)]
  simp only[ZJ]
  rw[if_pos (by omega),e,JpC htx h1 h2]
  exact⟨_,_,rfl,by simp,by simp⟩
end
end Go.Proofs.Ytaofbminodhcnaa
