/- preref9's parser,plain: what its parts read. -/
import Derived.Test.YtaofbminodhcnaaZcar
import Derived.IntWalk
set_option linter.unusedVariables false
set_option linter.unusedSimpArgs false
namespace Go.Proofs.Ytaofbminodhcnaa
open Go.RowKit
theorem wrI(x:Int)(h:-9223372036854775808≤x∧x≤9223372036854775807):IntKind.i64.wrap x=x:=IntWalk.i64_in _ h
def Sm{α:Type}(x:Option α)(Q:α→Prop):Prop:=∃ r,x=some r∧Q r
theorem Sm.mono{α:Type}{x:Option α}{P Q:α→Prop}(h:Sm x P)(k:∀ r,P r→Q r):Sm x Q:=let ⟨r,h1,h2⟩:=h; ⟨r,h1,k r h2⟩
theorem Sm.bind{α β:Type}{x:Option α}{f:α→Option β}{P:α→Prop}{Q:β→Prop}(h:Sm x P)(k:∀ r,P r→Sm (f r) Q):Sm (x.bind f) Q:=by
 obtain⟨r,rfl,h2⟩:=h
 exact k r h2
theorem Sm.some{α:Type}{x:α}{Q:α→Prop}(h:Q x):Sm (some x) Q:=⟨x,rfl,h⟩
theorem Sm.inrO{S R:Type}{x:Option R}{Q:S ⊕ R→Prop}(h:Sm x fun r=>Q (.inr r)):Sm (Go.Proofs.Ytaofbminodhcnaa.inrO x:Option (S ⊕ R)) Q:=by
 obtain⟨r,rfl,h2⟩:=h
 exact⟨_,rfl,h2⟩
def oS{S R:Type}(P:S→Prop)(Q:R→Prop):S ⊕ R→Prop
 | .inl s=>P s
 | .inr r=>Q r
theorem Sm.loop{S R:Type}{b:S→Option (S ⊕ R)}(I:S→Prop)(μ:S→Nat){Q:R→Prop}(h:∀ s,I s→Sm (b s) (oS (fun s'=>I s'∧μ s'<μ s) Q)){s:S}(hs:I s):Sm (Jt b s) Q :=
 Jhx I μ Q (fun s hs=>by
  obtain⟨o,h1,h2⟩:=h s hs
  refine⟨o,h1,?_⟩
  cases o <;> exact h2) s hs
mutual
def nsz:Node→Nat
 | ⟨_,_,ks⟩=>1+nszs ks
def nszs:List Node→Nat
 | []=>0
 | x::r=>nsz x+nszs r
end
theorem Jfg:∀ l m,nszs (l++m)=nszs l+nszs m
 | [],m=>by simp[nszs]
 | x::l,m=>by simp[nszs,Jfg l m,Nat.add_assoc]
theorem JlQ:∀ x,0<nsz x
 | ⟨_,_,ks⟩=>by rw[nsz]; omega
theorem Jdw:∀ l,l.length≤nszs l
 | []=>Nat.le_refl _
 | x::l=>by have:=JlQ x; have:=Jdw l; simp[nszs]; omega
abbrev TL:=List Token
def wd(l:TL)(p:Nat):List UInt8:=if p<l.length∧((l.getD p default).Kind=5∨(l.getD p default).Kind=1) then(l.getD p default).Text else []
def keyB(s:List UInt8):Bool:=eqS s [105,110,116] || eqS s [99,104,97,114] || eqS s [108,111,110,103] || eqS s [118,111,105,100] || eqS s [116,121,112,101,100,101,102] || eqS s [105,102] || eqS s [101,108,115,101] || eqS s [119,104,105,108,101] || eqS s [114,101,116,117,114,110]
def letB(c:UInt8):Bool:=(97≤c && c≤122) || (65≤c && c≤90) || c == 95
def Jf8(s:List UInt8):Bool:=match s with
 | c::_=>letB c
 | []=>false
def Xo(l:TL)(p:Nat):Bool:=eqI (l.getD p default).Kind 1 && !keyB (l.getD p default).Text
def Jai(s:List UInt8):Bool:=eqS s [105,110,116] || eqS s [99,104,97,114] || eqS s [108,111,110,103] || eqS s [118,111,105,100]
def BL:Nat:=1000000000000
structure TokOk (l:TL):Prop where
 len:l.length≤3000
 name:∀ p,p<l.length→(l.getD p default).Kind=1→Jf8 (l.getD p default).Text=true
 sign:∀ p,p<l.length→(l.getD p default).Kind=5→Jf8 (l.getD p default).Text=false
 text:∀ p,p<l.length→(l.getD p default).Text.length≤9223372036854775807
noncomputable def lpO{S R:Type}(b:S→Option (S ⊕ R)):Option (S ⊕ R)→Option R
 | none=>none
 | some (.inl s)=>Jt b s
 | some (.inr r)=>some r
theorem Ky{S R:Type}(b:S→Option (S ⊕ R))(s:S):Jt b s=lpO b (b s):=by
 rw[Jcg]
 unfold lpO
 cases b s with
 | none=>rfl
 | some o=>cases o <;> rfl
theorem V9{S R:Type}(b:S→Option (S ⊕ R))(s:S):lpO b (some (.inl s))=Jt b s:=rfl
theorem Vk{S R:Type}(b:S→Option (S ⊕ R))(x:Option R):lpO b (inrO x)=x:=by cases x <;> rfl
mutual
def vis(l:TL):Node→List Int
 | ⟨k,t,ks⟩=>(if k=16 then(if Jai (l.getD t.toNat default).Text=true then [] else [t]) else if k=10∨k=4 then [t] else [])++visL l ks
def visL(l:TL):List Node→List Int
 | []=>[]
 | x::r=>vis l x++visL l r
end
def FnK(ks:List Node):Prop:=∃ (t0 t1:Int) (ps b:List Node),ks=⟨16,t0,[]⟩::⟨4,t1,[]⟩::(ps++[⟨5,-1,b⟩])
mutual
def TW(l:TL):Node→Prop
 | ⟨k,t,ks⟩=>((k=16∨k=10)→ks=[])∧((k=16∨k=10∨k=4)→0≤t∧t<(l.length:Int))∧(k=3→FnK ks)∧TWs l ks
def TWs(l:TL):List Node→Prop
 | []=>True
 | x::r=>TW l x∧TWs l r
end
theorem Jh6(l:TL):∀ a b,visL l (a++b)=visL l a++visL l b
 | [],b=>by simp[visL]
 | x::a,b=>by simp[visL,Jh6 l a b]
theorem JlJ(l:TL):∀ a b,TWs l (a++b)↔TWs l a∧TWs l b
 | [],b=>by simp[TWs]
 | x::a,b=>by simp[TWs,JlJ l a b,and_assoc]
def nms(l:TL)(p q:Nat):List Int:=((List.range' p (q-p)).filter (Xo l)).map fun(i:Nat)=>(i:Int)
theorem Jp7(l:TL)(p:Nat):nms l p p=[]:=by simp[nms]
theorem JdL(l:TL){p q r:Nat}(h:p≤q)(k:q≤r):nms l p q++nms l q r=nms l p r:=by
 unfold nms
 rw[← List.map_append,← List.filter_append]
 congr 2
 have e:q=p+(q-p):=by omega
 have:List.range' p (q-p)++List.range' (p+(q-p)) (r-q)=List.range' p ((q-p)+(r-q)):=by rw[List.range'_append_1]
 rw[← e]at this
 rw[this]
 congr 1
 omega
theorem JjO(l:TL)(p:Nat):nms l p (p+1)=if Xo l p=true then [(p:Int)] else []:=by
 unfold nms
 rw[show p+1-p=1 by omega]
 simp only[List.range'_one,List.filter_cons,List.filter_nil]
 split <;> simp
theorem Jfd(l:TL)(p:Nat)(h:Xo l p=false):nms l p (p+1)=[]:=by rw[JjO,h]; rfl
def kOk(k:Int):Bool:=k != 16 && k != 10 && k != 4 && k != 3
def WN(l:TL)(p q:Nat)(x:Node):Prop:=p<q∧q≤l.length∧TW l x∧vis l x=nms l p q∧nsz x+1≤2 * (q-p)
def WNs(l:TL)(s p q:Nat)(ks:List Node):Prop:=p≤q∧q≤l.length∧TWs l ks∧visL l ks=nms l p q∧nszs ks+ks.length+s≤2 * (q-p)
section
variable {l:TL} {s p q r:Nat} {x:Node} {ks:List Node}
theorem WNs.nil(h:p≤l.length):WNs l 0 p p []:=⟨Nat.le_refl _,h,trivial,by rw[Jp7]; rfl,by simp[nszs]⟩
theorem WNs.add(h:WNs l s p q ks)(k:WN l q r x):WNs l s p r (ks++[x]):=by
 obtain⟨h1,h2,h3,h4,h5⟩:=h
 obtain⟨k1,k2,k3,k4,k5⟩:=k
 refine⟨by omega,k2,(JlJ l _ _).2 ⟨h3,k3,trivial⟩,?_,?_⟩
 ·rw[Jh6,h4,visL,visL,List.append_nil,k4,JdL l h1 (by omega)]
 ·rw[Jfg,nszs,nszs]; simp; omega
theorem WNs.skip(h:WNs l s p q ks)(hq:q<l.length)(hn:Xo l q=false):WNs l (s+2) p (q+1) ks:=by
 obtain⟨h1,h2,h3,h4,h5⟩:=h
 refine⟨by omega,by omega,h3,?_,by omega⟩
 rw[h4,← JdL l h1 (show q≤q+1 by omega),Jfd l q hn,List.append_nil]
theorem WNs.lead(h:WNs l s (p+1) q ks)(hn:Xo l p=false):WNs l (s+2) p q ks:=by
 obtain⟨h1,h2,h3,h4,h5⟩:=h
 refine⟨by omega,by omega,h3,?_,by omega⟩
 rw[h4,← JdL l (show p≤p+1 by omega) h1,Jfd l p hn,List.nil_append]
theorem WNs.weak{s':Nat}(h:WNs l s p q ks)(hs:s'≤s):WNs l s' p q ks:=⟨h.1,h.2.1,h.2.2.1,h.2.2.2.1,by have:=h.2.2.2.2; omega⟩
theorem WN.one(h:WN l p q x):WNs l 0 p q [x]:=by
 have:=(WNs.nil (l:=l) (p:=p) (by have:=h.1; have:=h.2.1; omega)).add h
 simpa using this
theorem WN.skip(h:WN l p q x)(hq:q<l.length)(hn:Xo l q=false):WN l p (q+1) x:=by
 obtain⟨h1,h2,h3,h4,h5⟩:=h
 refine⟨by omega,by omega,h3,?_,by omega⟩
 rw[h4,← JdL l (show p≤q by omega) (show q≤q+1 by omega),Jfd l q hn,List.append_nil]
theorem WN.lead(h:WN l (p+1) q x)(hn:Xo l p=false):WN l p q x:=by
 obtain⟨h1,h2,h3,h4,h5⟩:=h
 refine⟨by omega,by omega,h3,?_,by omega⟩
 rw[h4,← JdL l (show p≤p+1 by omega) (show p+1≤q by omega),Jfd l p hn,List.nil_append]
theorem WNs.mk{k t:Int}(h:WNs l s p q ks)(hs:2≤ks.length+s)(hk:kOk k=true):WN l p q ⟨k,t,ks⟩:=by
 simp only[kOk,Bool.and_eq_true,bne_iff_ne,ne_eq]at hk
 obtain⟨⟨⟨b1,b2⟩,b3⟩,b4⟩:=hk
 have hk:k≠16∧k≠10∧k≠4∧k≠3:=⟨b1,b2,b3,b4⟩
 obtain⟨h1,h2,h3,h4,h5⟩:=h
 obtain⟨a1,a2,a3,a4⟩:=hk
 refine⟨by omega,h2,?_,?_,?_⟩
 ·rw[TW]
  exact⟨fun h=>by omega,fun h=>by omega,fun h=>by omega,h3⟩
 ·rw[vis,if_neg a1,if_neg (by omega),List.nil_append,h4]
 ·rw[nsz]; omega
theorem WN.lit{k t:Int}(hq:p<l.length)(hn:Xo l p=false)(hk:kOk k=true):WN l p (p+1) ⟨k,t,[]⟩ :=
 WNs.mk (s:=2) ((WNs.nil (Nat.le_of_lt hq)).skip hq hn) (by simp) hk
theorem WN.use(hq:p<l.length)(hn:Xo l p=true):WN l p (p+1) ⟨10,(p:Int),[]⟩:=by
 refine⟨by omega,by omega,?_,?_,by simp[nsz,nszs]⟩
 ·rw[TW]; exact⟨fun _=>rfl,fun _=>by omega,fun h=>by omega,trivial⟩
 ·rw[vis,if_neg (by decide),if_pos (.inl rfl),visL,JjO,hn]; rfl
theorem WN.name(hq:p<l.length)(hn:Xo l p=true):WN l p (p+1) ⟨4,(p:Int),[]⟩:=by
 refine⟨by omega,by omega,?_,?_,by simp[nsz,nszs]⟩
 ·rw[TW]; exact⟨fun _=>rfl,fun _=>by omega,fun h=>by omega,trivial⟩
 ·rw[vis,if_neg (by decide),if_pos (.inr rfl),visL,JjO,hn]; rfl
theorem WN.typ(hq:p<l.length)(hn:Xo l p=!Jai (l.getD p default).Text):WN l p (p+1) ⟨16,(p:Int),[]⟩:=by
 refine⟨by omega,by omega,?_,?_,by simp[nsz,nszs]⟩
 ·rw[TW]; exact⟨fun _=>rfl,fun _=>by omega,fun h=>by omega,trivial⟩
 ·rw[vis,if_pos rfl,visL,JjO,hn,Int.toNat_natCast,List.append_nil]
  cases Jai (l.getD p default).Text <;> rfl
theorem WN.kid{t:Int}(h:WN l p q ⟨4,t,ks⟩)(hq:q<l.length)(hn:Xo l q=false)(k:WN l (q+1) r x):WN l p r ⟨4,t,ks++[x]⟩:=by
 obtain⟨h1,h2,h3,h4,h5⟩:=h
 obtain⟨k1,k2,k3,k4,k5⟩:=k
 rw[TW]at h3
 rw[vis]at h4
 rw[nsz]at h5
 refine⟨by omega,k2,?_,?_,?_⟩
 ·rw[TW]
  exact⟨fun h=>by omega,h3.2.1,fun h=>by omega,(JlJ l _ _).2 ⟨h3.2.2.2,k3,trivial⟩⟩
 ·rw[vis,Jh6,← List.append_assoc,h4,visL,visL,List.append_nil,k4,← JdL l (show p≤q by omega) (show q≤r by omega),← JdL l (show q≤q+1 by omega) (show q+1≤r by omega),Jfd l q hn,List.nil_append]
 ·rw[nsz,Jfg,nszs,nszs]; omega
end
def XM(l:TL)(er i:Int):Nat:=if er=0 then l.length-i.toNat+1 else 0
theorem Jf5{l:TL}{er:Int}{q q2:Nat}(h:q<q2)(h2:q2≤l.length):XM l er (q2:Int)<XM l 0 (q:Int):=by
 unfold XM
 rw[if_pos rfl,Int.toNat_natCast,Int.toNat_natCast]
 split <;> omega
theorem JcX{l:TL}{er i i2:Int}(h:er≠0):XM l er i2<XM l 0 i:=by
 unfold XM
 rw[if_pos rfl,if_neg h]
 omega
section
variable {l:TL} {p:Nat}
theorem wP(h:p≤BL):IntKind.i64.wrap ((p:Int)+1)=((p+1:Nat):Int):=by
 unfold BL at h
 rw[wrI _ (by omega)]
 rfl
theorem Jst{s:List UInt8}(h:wd l p=s)(hs:s≠[]):p<l.length:=by
 unfold wd at h
 split at h
 ·rename_i h1; exact h1.1
 ·exact absurd h.symm hs
def okW(s:List UInt8):Bool:=s != [] && (keyB s || !Jf8 s)
theorem Xa(hl:TokOk l){s:List UInt8}(h:wd l p=s)(hs:okW s=true):p<l.length∧Xo l p=false:=by
 simp only[okW,Bool.and_eq_true,bne_iff_ne,ne_eq,Bool.or_eq_true,Bool.not_eq_true']at hs
 have hlt:=Jst h hs.1
 refine⟨hlt,?_⟩
 unfold wd at h
 split at h
 ·rename_i h1
  obtain⟨_,hk⟩:=h1
  unfold Xo
  rcases hk with hk | hk
  ·simp only[hk,eqI]
   rfl
  ·have hn:=hl.name p hlt hk
   rw[h]at hn
   simp only[hk,eqI,h]
   rcases hs.2 with h2 | h2
   ·rw[h2]; rfl
   ·rw[hn]at h2; cases h2
 ·exact absurd h.symm hs.1
theorem Jv8(hl:TokOk l)(h:Jf8 (wd l p)=true)(hk:keyB (wd l p)=false):p<l.length∧Xo l p=true∧wd l p=(l.getD p default).Text:=by
 unfold wd at h hk ⊢
 split at h
 ·rename_i h1
  rw[if_pos h1]at hk
  rw[if_pos h1]
  refine⟨h1.1,?_,rfl⟩
  rcases h1.2 with h5 | h5
  ·rw[hl.sign p h1.1 h5]at h; cases h
  ·simp only[Xo,h5,eqI,hk]; rfl
 ·cases h
theorem JpY{s:List UInt8}(h:Jai s=true):okW s=true:=by
 unfold Jai eqS at h
 simp only[Bool.or_eq_true,decide_eq_true_eq]at h
 rcases h with((rfl | rfl) | rfl) | rfl <;> decide
theorem Jwn(h:wd l p≠[]):wd l p=(l.getD p default).Text:=by
 unfold wd at h ⊢
 split at h
 ·rename_i h1; rw[if_pos h1]
 ·exact absurd rfl h
theorem JtS(hl:TokOk l):(wd l p).length≤9223372036854775807:=by
 unfold wd
 split
 ·rename_i h1; exact hl.text p h1.1
 ·simp
theorem Jqe(L:List (List UInt8))(s:List UInt8)(hL:L.length≤BL):∀ (n i:Nat),L.length-i=n→i≤L.length→Jt (Jbf L s) ((L.length:Int),(i:Int))=some ((L.drop i).any fun x=>eqS x s)
 | 0,i,hn,hi=>by
  rw[Ky]
  simp only[Jbf,ltI,decide_eq_true_eq]
  rw[if_neg (by omega),show i=L.length by omega,List.drop_length]
  rfl
 | n+1,i,hn,hi=>by
  have hlt:i<L.length:=by omega
  have ed:L.drop i=L.getD i default::L.drop (i+1):=by
   rw[List.getD_eq_getElem?_getD,List.getElem?_eq_getElem hlt]
   exact List.drop_eq_getElem_cons hlt
  rw[Ky]
  simp only[Jbf,ltI,decide_eq_true_eq,Int.toNat_natCast]
  rw[if_pos (by omega),if_pos (by omega),ed,List.any_cons]
  by_cases he:eqS (L.getD i default) s=true
  ·rw[if_pos he,he]; rfl
  ·rw[if_neg he,wP (by omega),V9,Jqe L s hL n (i+1) (by omega) (by omega)]
   simp only[Bool.not_eq_true]at he
   rw[he,Bool.false_or]
theorem Jk8(L:List (List UInt8))(s:List UInt8)(hL:L.length≤BL):Jaf L s=some (L.any fun x=>eqS x s):=by
 have:=Jqe L s hL _ 0 rfl (Nat.zero_le _)
 simpa [Jaf] using this
theorem Jo2(a b:List UInt8):eqS a b=eqS b a:=by
 unfold eqS
 exact decide_eq_decide.2 ⟨Eq.symm,Eq.symm⟩
theorem JrI(s:List UInt8):Jbt s=some (Jai s):=by
 unfold Jbt
 rw[Jk8 _ _ (by decide)]
 simp only[Option.bind_some,List.any_cons,List.any_nil,Bool.or_false,Jai,Jo2 s,Bool.or_assoc]
theorem JxD(s:List UInt8):Jda s=some (keyB s):=by
 unfold Jda
 rw[Jk8 _ _ (by decide)]
 simp only[Option.bind_some,List.any_cons,List.any_nil,Bool.or_false,keyB,Jo2 s,Bool.or_assoc]
variable {er fi at_ d:Int}
theorem V8:JA (p:Int) l er fi at_ d=some (wd l p):=by
 unfold JA wd
 simp only[Zu,ltI,eqI,decide_eq_true_eq,Int.toNat_natCast]
 generalize l.getD p default=t
 by_cases h:p<l.length
 ·have h1:(p:Int)<(l.length:Int):=by omega
  have h2:(0:Int)≤(p:Int)∧p<l.length:=by omega
  by_cases h5:t.Kind=5
  ·simp only[h1,h2,h,h5,if_true,true_or,and_true]
  ·by_cases h6:t.Kind=1
   ·simp only[h1,h2,h,h6,if_true,or_true,and_true]
    rfl
   ·simp only[h1,h2,h,h5,h6,if_true,if_false,or_self,and_false,and_self]
 ·have h1:¬ (p:Int)<(l.length:Int):=by omega
  simp only[h1,h,if_false,false_and]
  rfl
theorem Xs:JT l er fi at_ d=some (eqI er 0):=rfl
theorem Jfi{e:Int}(he:e≠0)(hL:l.length≤BL):∃ er' fi' at',er'≠0∧VD (p:Int) e l er fi at_ d=some (er',fi',at'):=by
 unfold VD
 simp only[eqI,decide_eq_true_eq]
 by_cases h0:er=0
 ·rw[if_pos h0]
  unfold JeL
  simp only[ltI,decide_eq_true_eq,Int.toNat_natCast]
  by_cases h:p<l.length
  ·rw[if_pos (by omega),if_pos (by omega),if_pos (by omega)]
   exact⟨_,_,_,he,rfl⟩
  ·rw[if_neg (by omega)]
   by_cases h1:(0:Int)<(l.length:Int)
   ·unfold BL at hL
    rw[if_pos h1,wrI _ (by omega),if_pos (by omega)]
    exact⟨_,_,_,he,rfl⟩
   ·rw[if_neg h1]
    exact⟨_,_,_,he,rfl⟩
 ·rw[if_neg h0]
  exact⟨_,_,_,h0,rfl⟩
theorem Jcw{s:List UInt8}(hL:l.length≤BL)(hp:p≤BL):(wd l p=s∧JS (p:Int) s l er fi at_ d=some (((p+1:Nat):Int),er,fi,at_))∨(wd l p≠s∧∃ er' fi' at',er'≠0∧JS (p:Int) s l er fi at_ d=some (((p+1:Nat):Int),er',fi',at')):=by
 unfold JS
 rw[V8,Option.bind_some]
 simp only[JaJ,eqS,Bool.not_eq_true',decide_eq_false_iff_not,wP hp]
 by_cases e:wd l p=s
 ·rw[if_neg (by simpa using e)]; exact .inl ⟨e,rfl⟩
 ·obtain⟨e1,f1,a1,h1,h2⟩:=Jfi (l:=l) (p:=p) (er:=er) (fi:=fi) (at_:=at_) (d:=d) (e:=2) (by decide) hL
  rw[if_pos e,h2]
  exact .inr ⟨e,e1,f1,a1,h1,rfl⟩
theorem Jhk{s:List UInt8}(hL:l.length≤BL)(hp:p≤BL)(h0:er≠0):∃ er' fi' at',er'≠0∧JS (p:Int) s l er fi at_ d=some (((p+1:Nat):Int),er',fi',at'):=by
 rcases Jcw (l:=l) (p:=p) (er:=er) (fi:=fi) (at_:=at_) (d:=d) (s:=s) hL hp with⟨_,h⟩|⟨_,e,f,a,h1,h2⟩
 ·exact⟨_,_,_,h0,h⟩
 ·exact⟨_,_,_,h1,h2⟩
theorem Jky(hL:l.length≤BL):(p<l.length∧Xo l p=true∧VI (p:Int) l er fi at_ d=some (er,fi,at_))∨(∃ er' fi' at',er'≠0∧VI (p:Int) l er fi at_ d=some (er',fi',at')):=by
 obtain⟨e1,f1,a1,h1,h2⟩:=Jfi (l:=l) (p:=p) (er:=er) (fi:=fi) (at_:=at_) (d:=d) (e:=2) (by decide) hL
 have hf:∃ er' fi' at',er'≠0∧Xe (p:Int) l er fi at_ d true=some (er',fi',at'):=⟨e1,f1,a1,h1,by simp only[Xe,if_true,h2,Option.bind_some]⟩
 unfold VI
 simp only[leI,eqI,decide_eq_true_eq,Int.toNat_natCast,Bool.not_eq_true',decide_eq_false_iff_not,JxD,Option.bind_some]
 by_cases he:l.length≤p
 ·rw[if_pos (by omega)]; exact .inr hf
 ·rw[if_neg (by omega),if_pos (by omega)]
  by_cases hk:(l.getD p default).Kind=1
  ·rw[if_neg (by simpa using hk),if_pos (by omega)]
   cases hy:keyB (l.getD p default).Text with
   | true=>exact .inr hf
   | false=>exact .inl ⟨by omega,by simp only[Xo,eqI,hk,hy]; rfl,rfl⟩
  ·rw[if_pos (by simpa using hk)]; exact .inr hf
theorem JhQ{D:Nat}(hL:l.length≤BL)(hD:D≤30):(D<30∧KV (p:Int) l 0 fi at_ (D:Int)=some (true,0,fi,at_,((D+1:Nat):Int)))∨(∃ er' fi' at' d',er'≠0∧KV (p:Int) l 0 fi at_ (D:Int)=some (false,er',fi',at',d')):=by
 unfold KV
 simp only[leI,decide_eq_true_eq,X2,Xs,Option.bind_some]
 by_cases h:D<30
 ·rw[if_neg (by omega),wrI _ (by omega)]
  exact .inl ⟨h,rfl⟩
 ·obtain⟨e1,f1,a1,h1,h2⟩:=Jfi (l:=l) (p:=p) (er:=0) (fi:=fi) (at_:=at_) (d:=(D:Int)) (e:=10) (by decide) hL
  rw[if_pos (by omega),h2,Option.bind_some]
  exact .inr ⟨e1,f1,a1,_,h1,by simp only[eqI,h1,decide_false]; rfl⟩
theorem Jw6(hL:l.length≤BL)(h0:er≠0):∃ er' fi' at' d',er'≠0∧KV (p:Int) l er fi at_ d=some (false,er',fi',at',d'):=by
 unfold KV
 simp only[leI,decide_eq_true_eq,X2,Xs,Option.bind_some]
 by_cases h:(30:Int)≤d
 ·obtain⟨e1,f1,a1,h1,h2⟩:=Jfi (l:=l) (p:=p) (er:=er) (fi:=fi) (at_:=at_) (d:=d) (e:=10) (by decide) hL
  rw[if_pos h,h2,Option.bind_some]
  exact⟨e1,f1,a1,_,h1,by simp only[eqI,h1,decide_false]; rfl⟩
 ·rw[if_neg h]
  exact⟨er,fi,at_,_,h0,by simp only[eqI,h0,decide_false]; rfl⟩
end
end Go.Proofs.Ytaofbminodhcnaa
