/- The scope's walker,plain. -/
import Derived.Test.YtaofbminodhcnaaZbat
import Derived.Test.YtaofbminodhcnaaZbba
set_option linter.unusedVariables false
set_option linter.unusedSimpArgs false
namespace Go.Proofs.Ytaofbminodhcnaa
open Go.RowKit
def okr{E R:Type}(P:R→Prop):GR (Int×E) R→Prop
 | .ok r=>P r
 | .er e=>e.1≠0
def okq{E R:Type}(P:R→Prop):GR E R→Prop
 | .ok r=>P r
 | .er _=>True
theorem Sm.grB{E R β:Type}{x:Option (GR (Int×E) R)}{f:R→Option β}{g:Int×E→Option β}{P:R→Prop}{Q:β→Prop}(h:Sm x (okr P))(k:∀ r,P r→Sm (f r) Q)(k2:∀ e,e.1≠0→Sm (g e) Q):Sm (Go.Proofs.Ytaofbminodhcnaa.grB x f g) Q:=by
 obtain⟨r,rfl,h2⟩:=h
 cases r with
 | ok r=>exact k r h2
 | er e=>exact k2 e h2
theorem Sm.grq{E R β:Type}{x:Option (GR E R)}{f:R→Option β}{g:E→Option β}{P:R→Prop}{Q:β→Prop}(h:Sm x (okq P))(k:∀ r,P r→Sm (f r) Q)(k2:∀ e,Sm (g e) Q):Sm (Go.Proofs.Ytaofbminodhcnaa.grB x f g) Q:=by
 obtain⟨r,rfl,h2⟩:=h
 cases r with
 | ok r=>exact k r h2
 | er e=>exact k2 e
def Up(l:TL)(T:List Int):Prop:=T.Pairwise (· < ·)∧(∀ t∈T,0≤t∧t<(l.length:Int))∧T.length≤3000
theorem Up.left{l:TL}{a b:List Int}(h:Up l (a++b)):Up l a :=
 ⟨(List.pairwise_append.1 h.1).1,fun t ht=>h.2.1 t (List.mem_append_left _ ht),by have:=h.2.2; simp at this; omega⟩
structure OI (l:TL) (K:List KD) (out:List Bind) (T:List Int):Prop where
 tok:out.map Bind.Tok=T
 dec:∀ b∈out,0≤b.Decl∧b.Decl≤b.Tok∧tokT l b.Tok=tokT l b.Decl∧(⟨b.Decl,b.Decl⟩:Bind)∈out
 map:∀ m∈K,m.length≤out.length∧∀ q∈m,tokT l q.2=q.1∧(⟨q.2,q.2⟩:Bind)∈out
 pos:0<K.length
section
variable {l:TL} {K:List KD} {out:List Bind} {T:List Int} {t:Int}
theorem OI.len(h:OI l K out T):out.length=T.length:=by rw[← h.tok,List.length_map]
theorem OI.room(h:OI l K out T)(hu:Up l (T++[t]))(b:Bind):(out.length + [b].length) * 16≤140737488355328:=by
 have:=h.len
 have:=hu.2.2
 simp at this ⊢
 omega
theorem OI.add(h:OI l K out T)(hu:Up l (T++[t])){d:Int}(h1:tokT l t=tokT l d)(h2:(⟨d,d⟩:Bind)∈out∨d=t):OI l K (out++[⟨t,d⟩]) (T++[t]):=by
 refine⟨by rw[List.map_append,h.tok]; rfl,?_,?_,h.pos⟩
 ·intro b hb
  rcases List.mem_append.1 hb with hb | hb
  ·obtain⟨a1,a2,a3,a4⟩:=h.dec b hb
   exact⟨a1,a2,a3,List.mem_append_left _ a4⟩
  ·obtain rfl:=List.mem_singleton.1 hb
   have ht:=hu.2.1 t (by simp)
   rcases h2 with h2 | rfl
   ·have hd:d∈T:=by rw[← h.tok]; exact List.mem_map.2 ⟨_,h2,rfl⟩
    have:=(List.pairwise_append.1 hu.1).2.2 d hd t (by simp)
    have:=hu.2.1 d (List.mem_append_left _ hd)
    exact⟨this.1,by simp only; omega,h1,List.mem_append_left _ h2⟩
   ·exact⟨ht.1,Int.le_refl _,h1,List.mem_append_right _ (by simp)⟩
 ·intro m hm
  obtain⟨a1,a2⟩:=h.map m hm
  refine⟨by simp; omega,fun q hq=>?_⟩
  obtain⟨b1,b2⟩:=a2 q hq
  exact⟨b1,List.mem_append_left _ b2⟩
theorem OI.put(h:OI l K out T)(hu:Up l (T++[t])):OI l (kPut K (tokT l t) t) (out++[⟨t,t⟩]) (T++[t]):=by
 have h':=h.add hu (d:=t) rfl (.inr rfl)
 refine⟨h'.tok,h'.dec,?_,by unfold kPut; rw[List.length_set]; exact h.pos⟩
 intro m hm
 rcases List.mem_or_eq_of_mem_set hm with hm | rfl
 ·exact h'.map m hm
 ·have hp:=h.pos
  have hmem:K.getD (K.length-1) []∈K:=by
   rw[List.getD_eq_getElem?_getD,List.getElem?_eq_getElem (by omega)]
   exact List.getElem_mem _
  obtain⟨a1,a2⟩:=h.map _ hmem
  refine⟨by simp only[List.length_cons,List.length_append,List.length_nil]; omega,fun q hq=>?_⟩
  rcases List.mem_cons.1 hq with rfl | hq
  ·exact⟨rfl,List.mem_append_right _ (by simp)⟩
  ·obtain⟨b1,b2⟩:=a2 q hq
   exact⟨b1,List.mem_append_left _ b2⟩
theorem OI.push(h:OI l K out T):OI l (K++[[]]) out T:=⟨h.tok,h.dec,fun m hm=>by
 rcases List.mem_append.1 hm with hm | hm
 ·exact h.map m hm
 ·obtain rfl:=List.mem_singleton.1 hm
  exact⟨Nat.zero_le _,nofun⟩,by simp⟩
theorem OI.drop(h:OI l K out T)(h2:1<K.length):OI l K.dropLast out T:=⟨h.tok,h.dec,fun m hm=>h.map m (List.dropLast_subset _ hm),by rw[List.length_dropLast]; omega⟩
theorem Jop{A:Type}:∀ (m:List (List UInt8×A)) (s:List UInt8) (v:A),xGet m s=some v→(s,v)∈m
 | [],s,v,h=>by simp[xGet]at h
 | (k,w)::m,s,v,h=>by
  rw[xGet]at h
  split at h
  ·rename_i e; cases h; subst e; simp
  ·exact List.mem_cons_of_mem _ (Jop m s v h)
theorem JpF(e:Int)(h:0≤t∧t<(l.length:Int)):Xm e t l K out=some ():=by
 unfold Xm
 rw[if_pos (by omega)]
theorem Jto(hl:TokOk l)(h:OI l K out T)(hu:Up l (T++[t]))(hK:K.length≤BL):∀ (n:Nat),n≤K.length→Sm (Ju (Xq t l K out) ((n:Int)-1)) (okq fun o=>OI l K o (T++[t])):=by
 have ht:=hu.2.1 t (by simp)
 intro n
 induction n with
 | zero =>
  intro _
  rw[XQ]
  simp only[Xq,leI,decide_eq_true_eq]
  rw[if_neg (by omega),JaN,JpF 6 ht]
  exact Sm.some trivial
 | succ n ih =>
  intro hn
  have e1:((n+1:Nat):Int)-1=(n:Int):=by omega
  rw[e1,XQ]
  have htx:=hl.text t.toNat (by omega)
  simp only[Xq,leI,decide_eq_true_eq]
  rw[if_pos (by omega),if_pos ⟨by omega,by omega,by omega,by omega,htx⟩]
  by_cases hh:kHas K (n:Int) (tokT l t)=true
  ·rw[if_pos hh,if_pos (h.room hu _),JaN]
   refine Sm.some (h.add hu ?_ (.inl ?_))
   all_goals
    have hm:K.getD n []∈K:=by
     rw[List.getD_eq_getElem?_getD,List.getElem?_eq_getElem (by omega)]
     exact List.getElem_mem _
    unfold kHas enH at hh
    obtain⟨v,hv⟩:=Option.isSome_iff_exists.1 hh
    have ev:kVal K (n:Int) (tokT l t)=v:=by unfold kVal enV; rw[hv]; rfl
    rw[Int.toNat_natCast]at hv
    obtain⟨b1,b2⟩:=(h.map _ hm).2 _ (Jop _ _ _ hv)
    rw[ev]
   ·exact b1.symm
   ·exact b2
  ·unfold BL at hK
   rw[if_neg hh,wrI _ (by omega),JbM]
   exact ih (by omega)
theorem Jrm(hl:TokOk l)(h:OI l K out T)(hu:Up l (T++[t]))(hK:K.length≤BL):Sm (Zy t l K out) (okq fun o=>OI l K o (T++[t])):=Jto hl h hu hK K.length (Nat.le_refl _)
theorem Jqc(hl:TokOk l)(h:OI l K out T)(hu:Up l (T++[t])):Sm (Xl t l K out) (okq fun o=>OI l o.1 o.2 (T++[t])∧o.1.length=K.length):=by
 have ht:=hu.2.1 t (by simp)
 have htx:=hl.text t.toNat (by omega)
 have hp:=h.pos
 have hmem:K.getD (K.length-1) []∈K:=by
  rw[List.getD_eq_getElem?_getD,List.getElem?_eq_getElem (by omega)]
  exact List.getElem_mem _
 have hlt:(kTop K).length<9223372036854775807:=by
  have h1:=(h.map _ hmem).1
  have h2:=h.len
  have h3:=hu.2.2
  rw[List.length_append,List.length_singleton]at h3
  unfold kTop
  omega
 unfold Xl
 rw[if_pos ⟨hp,hlt,by omega,by omega,htx⟩]
 by_cases hh:JeC K l t=true
 ·rw[if_pos hh,JpF 7 ht]
  exact Sm.some trivial
 ·rw[if_neg hh,if_pos (h.room hu _)]
  exact Sm.some ⟨h.put hu,by unfold kPut; rw[List.length_set]⟩
def WR(l:TL)(T:List Int)(n:Nat)(r:GR (Int×Int×Int×List KD×List Bind) (List KD×List Bind)):Prop:=okr (fun o=>OI l o.1 o.2 T∧o.1.length=n) r
abbrev WF:=Node→List Token→List KD→List Bind→Option (GR (Int×Int×Int×List KD×List Bind) (List KD×List Bind))
def JaE(l:TL)(f:WF)(x:Node)(V:List Int)(s:Nat):Prop:=∀ K out T,OI l K out T→Up l (T++V)→K.length+s≤BL→Sm (f x l K out) (WR l (T++V) K.length)
theorem JiF{ks r:List Node}{x:Node}{i:Nat}(h:ks.drop i=x::r):i<ks.length∧ks.getD i default=x∧ks.drop (i+1)=r:=by
 have hi:i<ks.length:=by
  rcases Nat.lt_or_ge i ks.length with h1 | h1
  ·exact h1
  ·rw[List.drop_eq_nil_of_le h1]at h; cases h
 rw[List.drop_eq_getElem_cons hi]at h
 injection h with h1 h2
 refine⟨hi,?_,h2⟩
 rw[List.getD_eq_getElem?_getD,List.getElem?_eq_getElem hi,← h1]
 rfl
theorem Jrg{q:WF}{x:Node}{s:Nat}(hs:x.Kids.length+s≤BL):∀ (r:List Node) (i:Nat) (K:List KD) (out:List Bind) (T:List Int),x.Kids.drop i=r→i≤x.Kids.length→(∀ y∈r,JaE l q y (vis l y) s)→OI l K out T→Up l (T++visL l r)→K.length+s≤BL→Sm (Ju (Xc q x l) ((x.Kids.length:Int),(i:Int),K,out)) (WR l (T++visL l r) K.length):=by
 intro r
 induction r with
 | nil =>
  intro i K out T hd hi hq h hu hk
  have:x.Kids.length≤i:=List.drop_eq_nil_iff.1 hd
  rw[XQ]
  simp only[Xc,ltI,decide_eq_true_eq]
  rw[if_neg (by omega),JaN,visL,List.append_nil]
  exact Sm.some ⟨h,rfl⟩
 | cons y r ih =>
  intro i K out T hd hi hq h hu hk
  obtain⟨h1,h2,h3⟩:=JiF hd
  rw[XQ]
  simp only[Xc,ltI,decide_eq_true_eq,Int.toNat_natCast]
  rw[if_pos (by omega),if_pos (by omega),h2]
  rw[visL,← List.append_assoc]at hu
  have hz:=hq y (by simp) K out T h hu.left hk
  obtain⟨rr,he,hz⟩:=hz
  rw[he]
  cases rr with
  | er e=>exact Sm.some hz
  | ok o =>
   obtain⟨hz1,hz2⟩:=hz
   simp only[Go.Proofs.Ytaofbminodhcnaa.grB]
   rw[wP (by omega),JbM,visL,← List.append_assoc,← hz2]
   exact ih (i+1) o.1 o.2 _ h3 (by omega) (fun y hy=>hq y (List.mem_cons_of_mem _ hy)) hz1 hu (by omega)
theorem JuW{qk q:WF}{x:Node}{t:Int}{b:List Node}{s:Nat}(hs:x.Kids.length+s≤BL)(hb:JaE l qk ⟨5,t,b⟩ (visL l b) s):∀ (r:List Node) (i:Nat) (K:List KD) (out:List Bind) (T:List Int),x.Kids.drop i=r++[⟨5,t,b⟩]→(∀ y∈r,JaE l q y (vis l y) s)→OI l K out T→Up l (T++(visL l r++visL l b))→K.length+s≤BL→Sm (Ju (VH qk q x l) ((i:Int),K,out)) (WR l (T++(visL l r++visL l b)) K.length):=by
 intro r
 induction r with
 | nil =>
  intro i K out T hd hq h hu hk
  obtain⟨h1,h2,h3⟩:=JiF hd
  have h4:x.Kids.length≤i+1:=List.drop_eq_nil_iff.1 h3
  have hw:IntKind.i64.wrap ((x.Kids.length:Int)-1)=(i:Int):=by
   unfold BL at hs
   rw[wrI _ (by omega)]; omega
  rw[XQ]
  simp only[VH,ltI,decide_eq_true_eq,hw,Int.toNat_natCast]
  rw[if_neg (by omega),JaN,if_pos (by omega),h2]
  rw[visL,List.nil_append]at hu ⊢
  exact(hb K out T h hu hk).grB (fun r hr=>Sm.some hr) (fun e he=>Sm.some he)
 | cons y r ih =>
  intro i K out T hd hq h hu hk
  obtain⟨h1,h2,h3⟩:=JiF hd
  obtain⟨h4,_,_⟩:=JiF (x:=(r++[(⟨5,t,b⟩:Node)]).headD default) (r:=(r++[(⟨5,t,b⟩:Node)]).tail) (h3.trans (by cases r <;> rfl))
  have hw:IntKind.i64.wrap ((x.Kids.length:Int)-1)=(x.Kids.length:Int)-1:=by
   unfold BL at hs
   rw[wrI _ (by omega)]
  rw[XQ]
  simp only[VH,ltI,decide_eq_true_eq,hw,Int.toNat_natCast]
  rw[if_pos (by omega),if_pos (by omega),h2]
  rw[visL,List.append_assoc,← List.append_assoc]at hu
  have hz:=hq y (by simp) K out T h hu.left hk
  obtain⟨rr,he,hz⟩:=hz
  rw[he]
  cases rr with
  | er e=>exact Sm.some hz
  | ok o =>
   obtain⟨hz1,hz2⟩:=hz
   simp only[Go.Proofs.Ytaofbminodhcnaa.grB]
   rw[wP (by omega),JbM,visL,List.append_assoc,← List.append_assoc,← hz2]
   exact ih (i+1) o.1 o.2 _ h3 (fun y hy=>hq y (List.mem_cons_of_mem _ hy)) hz1 hu (by omega)
end
theorem JkA{y:Node}:∀ {ks:List Node},y∈ks→nsz y≤nszs ks
 | z::ks,h=>by
  rw[nszs]
  rcases List.mem_cons.1 h with rfl | h
  ·omega
  ·have:=JkA h; omega
theorem Jj2{l:TL}{y:Node}:∀ {ks:List Node},y∈ks→TWs l ks→TW l y
 | z::ks,h,hw=>by
  rw[TWs]at hw
  rcases List.mem_cons.1 h with rfl | h
  ·exact hw.1
  ·exact Jj2 h hw.2
theorem Jiz{l:TL}{x:Node}{s k:Nat}(hs:x.Kids.length+s≤BL)(h:∀ y∈x.Kids,JaE l (Ja k).1 y (vis l y) s):JaE l (Ja (k+1)).2.1 x (visL l x.Kids) s:=by
 intro K out T hi hu hk
 exact Jrg (s:=s) hs x.Kids 0 K out T rfl (Nat.zero_le _) h hi hu hk
theorem JaE.weak{l:TL}{f:WF}{x:Node}{V:List Int}{s s':Nat}(h:JaE l f x V s)(hs:s≤s'):JaE l f x V s':=fun K out T hi hu hk=>h K out T hi hu (by omega)
theorem Jrp{l:TL}{x:Node}{V:List Int}{s k:Nat}(h:JaE l (Ja k).2.2.2.2.1 x V s){K:List KD}{out:List Bind}{T:List Int}(hi:OI l K out T)(hu:Up l (T++V))(hk:K.length+(s+1)≤BL):Sm ((Ja (k+1)).2.2.1 l K out x) (WR l (T++V) K.length):=by
 show Sm (XR (Ja k).1 (Ja k).2.1 (Ja k).2.2.1 (Ja k).2.2.2.1 (Ja k).2.2.2.2.1 (Ja k).2.2.2.2.2 l K out x) _
 unfold XR
 have hp:=hi.pos
 rw[if_pos (by unfold BL at hk; omega)]
 refine(h _ _ _ hi.push hu (by simp; omega)).grB (fun r hr=>?_) (fun e he=>Sm.some he)
 obtain⟨h1,h2⟩:=hr
 rw[List.length_append,List.length_singleton]at h2
 rw[if_pos (by omega)]
 exact Sm.some ⟨h1.drop (by omega),by simp only; rw[List.length_dropLast]; omega⟩
theorem JqU{l:TL}{x:Node}{V:List Int}{s k:Nat}(h:JaE l (Ja k).2.2.2.2.2 x V s){K:List KD}{out:List Bind}{T:List Int}(hi:OI l K out T)(hu:Up l (T++V))(hk:K.length+(s+1)≤BL):Sm ((Ja (k+1)).2.2.2.1 l K out x) (WR l (T++V) K.length):=by
 show Sm (V4 (Ja k).1 (Ja k).2.1 (Ja k).2.2.1 (Ja k).2.2.2.1 (Ja k).2.2.2.2.1 (Ja k).2.2.2.2.2 l K out x) _
 unfold V4
 have hp:=hi.pos
 rw[if_pos (by unfold BL at hk; omega)]
 refine(h _ _ _ hi.push hu (by simp; omega)).grB (fun r hr=>?_) (fun e he=>Sm.some he)
 obtain⟨h1,h2⟩:=hr
 rw[List.length_append,List.length_singleton]at h2
 rw[if_pos (by omega)]
 exact Sm.some ⟨h1.drop (by omega),by simp only; rw[List.length_dropLast]; omega⟩
theorem Jug{l:TL}(hl:TokOk l):∀ (m:Nat) (x:Node),4 * nsz x≤m→TW l x→∀ s,nsz x≤s→s≤100000→JaE l (Ja m).1 x (vis l x) s:=by
 intro m
 induction m using Nat.strongRecOn with
 | ind m ih =>
  rintro ⟨kd,t,ks⟩ hm hw s hs hsb K out T hi hu hk
  have hpos:=Jo0 ⟨kd,t,ks⟩
  obtain⟨n,rfl⟩:∃ n,m=n+4:=⟨m-4,by omega⟩
  rw[nsz]at hm hs
  rw[TW]at hw
  obtain⟨w1,w2,w3,w4⟩:=hw
  have hls:=Jhe ks
  have hKB:K.length≤BL:=by omega
  have hB:BL=1000000000000:=rfl
  have hkid:∀ y∈ks,∀ k,k<n+4→n≤k→∀ s',nszs ks≤s'→s'≤100000→JaE l (Ja k).1 y (vis l y) s':=fun y hy k h1 h2 s' h3 h4=>by
   have:=JkA hy
   exact ih k h1 y (by omega) (Jj2 hy w4) s' (by omega) h4
  show Sm (Zn (Ja (n+3)).1 (Ja (n+3)).2.1 (Ja (n+3)).2.2.1 (Ja (n+3)).2.2.2.1 (Ja (n+3)).2.2.2.2.1 (Ja (n+3)).2.2.2.2.2 ⟨kd,t,ks⟩ l K out) _
  unfold Zn
  rw[vis]at hu ⊢
  simp only[eqI,decide_eq_true_eq]
  by_cases h16:kd=16
  ·obtain⟨t1,t2⟩:=w2 (.inl h16)
   have hks:=w1 (.inl h16)
   subst h16; subst hks
   rw[if_pos rfl,if_pos (by omega)]
   rw[if_pos rfl,visL,List.append_nil]at hu ⊢
   have hj:Sm (K5 ⟨16,t,[]⟩ l K out (Jby (l.getD t.toNat default).Text)) (WR l (T++if Jby (l.getD t.toNat default).Text=true then [] else [t]) K.length):=by
    unfold K5
    cases hb:Jby (l.getD t.toNat default).Text with
    | true =>
     simp only[if_true,List.append_nil]
     exact Sm.some ⟨hi,rfl⟩
    | false =>
     rw[hb]at hu
     simp only[Bool.false_eq_true,if_false]at hu ⊢
     exact(Jrm hl hi hu hKB).grq (fun r hr=>Sm.some ⟨hr,rfl⟩) (fun e=>Sm.some (by simp[WR,okr]))
   unfold Jby at hj ⊢
   generalize (l.getD t.toNat default).Text=tx at hj ⊢
   by_cases b1:eqS tx [105,110,116]=true
   ·rw[if_pos b1]; simpa only[b1,Bool.true_or] using hj
   ·rw[if_neg b1]
    rw[Bool.not_eq_true]at b1
    by_cases b2:eqS tx [99,104,97,114]=true
    ·rw[if_pos b2]; simpa only[b1,b2,Bool.true_or,Bool.false_or] using hj
    ·rw[if_neg b2]
     rw[Bool.not_eq_true]at b2
     by_cases b3:eqS tx [108,111,110,103]=true
     ·rw[if_pos b3]; simpa only[b1,b2,b3,Bool.true_or,Bool.false_or] using hj
     ·rw[if_neg b3]
      rw[Bool.not_eq_true]at b3
      simpa only[b1,b2,b3,Bool.false_or] using hj
  ·rw[if_neg h16]
   rw[if_neg h16]at hu ⊢
   by_cases h10:kd=10
   ·have hks:=w1 (.inr h10)
    subst h10; subst hks
    rw[if_pos rfl]
    rw[if_pos (.inl rfl),visL,List.append_nil]at hu ⊢
    exact(Jrm hl hi hu hKB).grq (fun r hr=>Sm.some ⟨hr,rfl⟩) (fun e=>Sm.some (by simp[WR,okr]))
   ·rw[if_neg h10]
    by_cases h4:kd=4
    ·subst h4
     rw[if_pos rfl]
     rw[if_pos (.inr rfl),← List.append_assoc]at hu ⊢
     refine(Jqc hl hi hu.left).grq (fun r hr=>?_) (fun e=>Sm.some (by simp[WR,okr]))
     have hk2:=Jiz (x:=⟨4,t,ks⟩) (s:=s) (k:=n+2) (by simp only; omega) (fun y hy=>hkid y hy _ (by omega) (by omega) s (by omega) hsb) r.1 r.2 _ hr.1 hu (by omega)
     rw[hr.2]at hk2
     exact hk2.grB (fun r hr=>Sm.some hr) (fun e he=>Sm.some he)
    ·rw[if_neg h4]
     have hno:¬ (kd=10∨kd=4):=by omega
     rw[if_neg hno,List.nil_append]at hu ⊢
     by_cases h3:kd=3
     ·obtain⟨t0,t1,ps,b,hks⟩:=w3 h3
      subst h3
      rw[if_pos rfl]
      have e:visL l ks=vis l ⟨16,t0,[]⟩++([t1]++(visL l ps++visL l b)):=by rw[hks]; simp[visL,JgB,vis]
      rw[e,← List.append_assoc,← List.append_assoc]at hu ⊢
      have hz0:nszs ks=1+(1+(nszs ps+(1+nszs b))):=by rw[hks]; simp[nszs,nsz,Jg5]
      have k0:ks.getD 0 default=⟨16,t0,[]⟩:=by rw[hks]; rfl
      have k1:ks.getD 1 default=⟨4,t1,[]⟩:=by rw[hks]; rfl
      have kl:ks.length=ps.length+3:=by rw[hks]; simp
      have hd2:ks.drop 2=ps++[⟨5,-1,b⟩]:=by rw[hks]; rfl
      have wb:TW l ⟨5,-1,b⟩:=Jj2 (by rw[hks]; simp) w4
      rw[TW]at wb
      rw[if_pos (by omega),k0,k1]
      refine(hkid ⟨16,t0,[]⟩ (by rw[hks]; simp) (n+3) (by omega) (by omega) s (by omega) hsb K out T hi hu.left.left hk).grB (fun r hr=>?_) (fun e he=>Sm.some he)
      rw[if_pos (by omega)]
      refine(Jqc hl hr.1 hu.left).grq (fun r2 hr2=>?_) (fun e=>Sm.some (by simp[WR,okr]))
      have hblk:JaE l (Ja (n+1)).2.1 ⟨5,-1,b⟩ (visL l b) (s-1):=by
       refine Jiz (x:=⟨5,-1,b⟩) (s:=s-1) (k:=n) (by have:=Jhe b; simp only; omega) (fun y hy=>?_)
       have hy2:nsz y≤nszs b:=JkA (ks:=b) hy
       exact ih n (by omega) y (by omega) (Jj2 hy wb.2.2.2) (s-1) (by omega) (by omega)
      have h1:JaE l (Ja (n+2)).2.2.2.2.2 ⟨3,t,ks⟩ (visL l ps++visL l b) (s-1):=by
       intro K out T hi hu hk
       exact JuW (x:=⟨3,t,ks⟩) (s:=s-1) (by simp only; omega) hblk ps 2 K out T hd2 (fun y hy=>hkid y (by rw[hks]; simp[hy]) (n+1) (by omega) (by omega) (s-1) (by omega) (by omega)) hi hu hk
      have h2:=JqU h1 hr2.1 hu (by rw[hr2.2,hr.2]; omega)
      rw[hr2.2,hr.2]at h2
      exact h2.grB (fun r hr=>Sm.some hr) (fun e he=>Sm.some he)
     ·rw[if_neg h3]
      by_cases h5:kd=5
      ·subst h5
       rw[if_pos rfl]
       have hk2:JaE l (Ja (n+2)).2.2.2.2.1 ⟨5,t,ks⟩ (visL l ks) (s-1):=by
        have h1:=Jiz (l:=l) (x:=⟨5,t,ks⟩) (s:=s-1) (k:=n) (by simp only; omega) (fun y hy=>hkid y hy n (by omega) (by omega) (s-1) (by omega) (by omega))
        intro K out T hi hu hk
        exact(h1 K out T hi hu hk).grB (fun r hr=>Sm.some hr) (fun e he=>Sm.some he)
       exact(Jrp hk2 hi hu (by omega)).grB (fun r hr=>Sm.some hr) (fun e he=>Sm.some he)
      ·rw[if_neg h5]
       have hk2:=Jiz (x:=⟨kd,t,ks⟩) (s:=s) (k:=n+2) (by simp only; omega) (fun y hy=>hkid y hy _ (by omega) (by omega) s (by omega) hsb) K out T hi hu hk
       exact hk2.grB (fun r hr=>Sm.some hr) (fun e he=>Sm.some he)
end Go.Proofs.Ytaofbminodhcnaa
