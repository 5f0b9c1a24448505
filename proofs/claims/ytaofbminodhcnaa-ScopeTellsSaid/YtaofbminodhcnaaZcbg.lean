/- The scope's walker,plain. -/
import Derived.Test.YtaofbminodhcnaaZcav
import Derived.Test.YtaofbminodhcnaaZcbf
set_option linter.unusedVariables false
set_option linter.unusedSimpArgs false
namespace Go.Proofs.Ytaofbminodhcnaa
open Go.RowKit
def okr{E R:Type}(P:R→Prop):GR (Int×E) R→Prop
 | .ok r=>P r
 | .er e=>e.1≠0
def okq{E R:Type}(P:R→Prop):GR E R→Prop
 | .ok r=>P r
 | .er _=>True
theorem Sm.grB{E R β:Type}{x:Option (GR (Int×E) R)}{f:R→Option β}{g:Int×E→Option β}{P:R→Prop}{Q:β→Prop}(h:Sm x (okr P))(k:∀ r,P r→Sm (f r) Q)(k2:∀ e,e.1≠0→Sm (g e) Q):Sm (Go.Proofs.Ytaofbminodhcnaa.grB x f g) Q:=by
 obtain⟨r,rfl,h2⟩:=h
 cases r with
 | ok r=>exact k r h2
 | er e=>exact k2 e h2
def Up(l:TL)(T:List Int):Prop:=T.Pairwise (· < ·)∧(∀ t∈T,0≤t∧t<(l.length:Int))∧T.length≤3000
theorem Up.left{l:TL}{a b:List Int}(h:Up l (a++b)):Up l a :=
 ⟨(List.pairwise_append.1 h.1).1,fun t ht=>h.2.1 t (List.mem_append_left _ ht),by have:=h.2.2; simp at this; omega⟩
structure OI (l:TL) (K:List KD) (out:List Bind) (T:List Int):Prop where
 tok:out.map Bind.Tok=T
 dec:∀ b∈out,0≤b.Decl∧b.Decl≤b.Tok∧tokT l b.Tok=tokT l b.Decl∧(⟨b.Decl,b.Decl⟩:Bind)∈out
 map:∀ m∈K,m.length≤out.length∧∀ q∈m,tokT l q.2=q.1∧(⟨q.2,q.2⟩:Bind)∈out
 pos:0<K.length
section
variable {l:TL} {K:List KD} {out:List Bind} {T:List Int} {t:Int}
theorem OI.len(h:OI l K out T):out.length=T.length:=by rw[← h.tok,List.length_map]
theorem OI.room(h:OI l K out T)(hu:Up l (T++[t]))(b:Bind):(out.length + [b].length) * 16≤140737488355328:=by
 have:=h.len
 have:=hu.2.2
 simp at this ⊢
 omega
theorem OI.add(h:OI l K out T)(hu:Up l (T++[t])){d:Int}(h1:tokT l t=tokT l d)(h2:(⟨d,d⟩:Bind)∈out∨d=t):OI l K (out++[⟨t,d⟩]) (T++[t]):=by
 refine⟨by rw[List.map_append,h.tok]; rfl,?_,?_,h.pos⟩
 ·intro b hb
  rcases List.mem_append.1 hb with hb | hb
  ·obtain⟨a1,a2,a3,a4⟩:=h.dec b hb
   exact⟨a1,a2,a3,List.mem_append_left _ a4⟩
  ·obtain rfl:=List.mem_singleton.1 hb
   have ht:=hu.2.1 t (by simp)
   rcases h2 with h2 | rfl
   ·have hd:d∈T:=by rw[← h.tok]; exact List.mem_map.2 ⟨_,h2,rfl⟩
    have:=(List.pairwise_append.1 hu.1).2.2 d hd t (by simp)
    have:=hu.2.1 d (List.mem_append_left _ hd)
    exact⟨this.1,by simp only; omega,h1,List.mem_append_left _ h2⟩
   ·exact⟨ht.1,Int.le_refl _,h1,List.mem_append_right _ (by simp)⟩
 ·intro m hm
  obtain⟨a1,a2⟩:=h.map m hm
  refine⟨by simp; omega,fun q hq=>?_⟩
  obtain⟨b1,b2⟩:=a2 q hq
  exact⟨b1,List.mem_append_left _ b2⟩
theorem OI.put(h:OI l K out T)(hu:Up l (T++[t])):OI l (kPut K (tokT l t) t) (out++[⟨t,t⟩]) (T++[t]):=by
 have h':=h.add hu (d:=t) rfl (.inr rfl)
 refine⟨h'.tok,h'.dec,?_,by unfold kPut; rw[List.length_set]; exact h.pos⟩
 intro m hm
 rcases List.mem_or_eq_of_mem_set hm with hm | rfl
 ·exact h'.map m hm
 ·have hp:=h.pos
  have hmem:K.getD (K.length-1) []∈K:=by
   rw[List.getD_eq_getElem?_getD,List.getElem?_eq_getElem (by omega)]
   exact List.getElem_mem _
  obtain⟨a1,a2⟩:=h.map _ hmem
  refine⟨by simp only[List.length_cons,List.length_append,List.length_nil]; omega,fun q hq=>?_⟩
  rcases List.mem_cons.1 hq with rfl | hq
  ·exact⟨rfl,List.mem_append_right _ (by simp)⟩
  ·obtain⟨b1,b2⟩:=a2 q hq
   exact⟨b1,List.mem_append_left _ b2⟩
theorem OI.push(h:OI l K out T):OI l (K++[[]]) out T:=⟨h.tok,h.dec,fun m hm=>by
 rcases List.mem_append.1 hm with hm | hm
 ·exact h.map m hm
 ·obtain rfl:=List.mem_singleton.1 hm
  exact⟨Nat.zero_le _,nofun⟩,by simp⟩
theorem OI.drop(h:OI l K out T)(h2:1<K.length):OI l K.dropLast out T:=⟨h.tok,h.dec,fun m hm=>h.map m (List.dropLast_subset _ hm),by rw[List.length_dropLast]; omega⟩
theorem JoZ{A:Type}:∀ (m:List (List UInt8×A)) (s:List UInt8) (v:A),xGet m s=some v→(s,v)∈m
 | [],s,v,h=>by simp[xGet]at h
 | (k,w)::m,s,v,h=>by
  rw[xGet]at h
  split at h
  ·rename_i e; cases h; subst e; simp
  ·exact List.mem_cons_of_mem _ (JoZ m s v h)
theorem JjL(e:Int)(h:0≤t∧t<(l.length:Int)):Xz e t l K out=some ():=by
 unfold Xz
 rw[if_pos (by omega)]
theorem JuN(hl:TokOk l)(h:OI l K out T)(hu:Up l (T++[t]))(hK:K.length≤BL):∀ (n:Nat),n≤K.length→Sm (Jt (K0 t l K out) ((n:Int)-1)) (okq fun o=>OI l K o (T++[t])):=by
 have ht:=hu.2.1 t (by simp)
 intro n
 induction n with
 | zero =>
  intro _
  rw[Ky]
  simp only[K0,leI,decide_eq_true_eq]
  rw[if_neg (by omega),Vk,JjL 6 ht]
  exact Sm.some trivial
 | succ n ih =>
  intro hn
  have e1:((n+1:Nat):Int)-1=(n:Int):=by omega
  rw[e1,Ky]
  have htx:=hl.text t.toNat (by omega)
  simp only[K0,leI,decide_eq_true_eq]
  rw[if_pos (by omega),if_pos ⟨by omega,by omega,by omega,by omega,htx⟩]
  by_cases hh:kHas K (n:Int) (tokT l t)=true
  ·rw[if_pos hh,if_pos (h.room hu _),Vk]
   refine Sm.some (h.add hu ?_ (.inl ?_))
   all_goals
    have hm:K.getD n []∈K:=by
     rw[List.getD_eq_getElem?_getD,List.getElem?_eq_getElem (by omega)]
     exact List.getElem_mem _
    unfold kHas enH at hh
    obtain⟨v,hv⟩:=Option.isSome_iff_exists.1 hh
    have ev:kVal K (n:Int) (tokT l t)=v:=by unfold kVal enV; rw[hv]; rfl
    rw[Int.toNat_natCast]at hv
    obtain⟨b1,b2⟩:=(h.map _ hm).2 _ (JoZ _ _ _ hv)
    rw[ev]
   ·exact b1.symm
   ·exact b2
  ·unfold BL at hK
   rw[if_neg hh,wrI _ (by omega),V9]
   exact ih (by omega)
theorem JxQ(hl:TokOk l)(h:OI l K out T)(hu:Up l (T++[t]))(hK:K.length≤BL):Sm (Vn t l K out) (okq fun o=>OI l K o (T++[t])):=JuN hl h hu hK K.length (Nat.le_refl _)
theorem Jwq(hl:TokOk l)(h:OI l K out T)(hu:Up l (T++[t])):Sm (KO t l K out) (okq fun o=>OI l o.1 o.2 (T++[t])∧o.1.length=K.length):=by
 have ht:=hu.2.1 t (by simp)
 have htx:=hl.text t.toNat (by omega)
 have hp:=h.pos
 have hmem:K.getD (K.length-1) []∈K:=by
  rw[List.getD_eq_getElem?_getD,List.getElem?_eq_getElem (by omega)]
  exact List.getElem_mem _
 have hlt:(kTop K).length<9223372036854775807:=by
  have h1:=(h.map _ hmem).1
  have h2:=h.len
  have h3:=hu.2.2
  rw[List.length_append,List.length_singleton]at h3
  unfold kTop
  omega
 unfold KO
 rw[if_pos ⟨hp,hlt,by omega,by omega,htx⟩]
 by_cases hh:JeF K l t=true
 ·rw[if_pos hh,JjL 7 ht]
  exact Sm.some trivial
 ·rw[if_neg hh,if_pos (h.room hu _)]
  exact Sm.some ⟨h.put hu,by unfold kPut; rw[List.length_set]⟩
def WR(l:TL)(T:List Int)(n:Nat)(r:GR (Int×Int×Int×List KD×List Bind) (List KD×List Bind)):Prop:=okr (fun o=>OI l o.1 o.2 T∧o.1.length=n) r
abbrev WF:=Node→List Token→List KD→List Bind→Option (GR (Int×Int×Int×List KD×List Bind) (List KD×List Bind))
def JpG(l:TL)(f:WF)(x:Node)(V:List Int)(s:Nat):Prop:=∀ K out T,OI l K out T→Up l (T++V)→K.length+s≤BL→Sm (f x l K out) (WR l (T++V) K.length)
theorem JdH{ks r:List Node}{x:Node}{i:Nat}(h:ks.drop i=x::r):i<ks.length∧ks.getD i default=x∧ks.drop (i+1)=r:=by
 have hi:i<ks.length:=by
  rcases Nat.lt_or_ge i ks.length with h1 | h1
  ·exact h1
  ·rw[List.drop_eq_nil_of_le h1]at h; cases h
 rw[List.drop_eq_getElem_cons hi]at h
 injection h with h1 h2
 refine⟨hi,?_,h2⟩
 rw[List.getD_eq_getElem?_getD,List.getElem?_eq_getElem hi,← h1]
 rfl
end
theorem Jfo{y:Node}:∀ {ks:List Node},y∈ks→nsz y≤nszs ks
 | z::ks,h=>by
  rw[nszs]
  rcases List.mem_cons.1 h with rfl | h
  ·omega
  ·have:=Jfo h; omega
theorem JcY{l:TL}{y:Node}:∀ {ks:List Node},y∈ks→TWs l ks→TW l y
 | z::ks,h,hw=>by
  rw[TWs]at hw
  rcases List.mem_cons.1 h with rfl | h
  ·exact hw.1
  ·exact JcY h hw.2
theorem JpG.weak{l:TL}{f:WF}{x:Node}{V:List Int}{s s':Nat}(h:JpG l f x V s)(hs:s≤s'):JpG l f x V s':=fun K out T hi hu hk=>h K out T hi hu (by omega)
end Go.Proofs.Ytaofbminodhcnaa
