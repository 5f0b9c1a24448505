/- A box's cell that speaks of blocks of its own: made,and turned. -/
import Derived.Test.YtaofbminodhcnaaZcad
set_option linter.unusedVariables false
set_option linter.unusedSimpArgs false
namespace Go.Proofs.Ytaofbminodhcnaa
open Go.RowKit
theorem RCs.setK{e:Env}(Φ:KP)(v:Value):∀ {l:List C} {vs:List Value} (j:Nat),RCs e l vs→RCs e (l.set j (.kc Φ)) (vs.set j v)
 | [],[],_,_=>trivial
 | _::_,_::_,0,⟨_,h2⟩=>⟨trivial,h2⟩
 | _::_,_::_,j+1,⟨h1,h2⟩=>⟨h1,RCs.setK Φ v j h2⟩
 | [],_::_,_,h=>h.elim
 | _::_,[],_,h=>h.elim
structure Unowned (Γ:Ctx) (h:Hp) (e:Env) (m:Nat):Prop where
 lt:m<e.w.heap.size
 own:Γ.B≤m∨Γ.M m
 box:∀ a,h.H a≠none→e.ρ a≠some m
 tok:∀ a v,h.T a≠none→e.τ a=some v→¬ Vw v→v.ownBlock≠some m
 mu:∀ a,h.H a≠none→¬ e.μ a m
theorem WInv.kcSet{Γ:Ctx}{h:Hp}{e:Env}(hw:WInv Γ h e){n j b:Nat}{row:List C}{cs cs':Array Value}{ty:TypeId}(Φ:KP){w':World}{v':Value}(μ':Nat→Prop)
  (hn:h.H n=some row) (hrow:rowP row=true) (hρ:e.ρ n=some b) (hb:e.w.heap[b]? = some (.cells cs ty (0,0))) (hb':w'.heap[b]? = some (.cells cs' ty (0,0)))
  (hl:cs'.toList=cs.toList.set j v') (hj:j<row.length) (hone:∀ (i:Nat) (Ψ:KP),i≠j→row[i]?≠some (.kc Ψ))
  (hos:w'.os=e.w.os) (htape:w'.tape=e.w.tape) (hout:w'.output=e.w.output) (hsz:e.w.heap.size≤w'.heap.size)
  (same:∀ k,k<e.w.heap.size→k≠b→¬ e.μ n k→w'.heap[k]? = e.w.heap[k]?)
  (hμ:∀ m,μ' m→(e.μ n m∨e.w.heap.size≤m∨Unowned Γ h e m)∧m<w'.heap.size∧(∀ o,w'.heap[m]? = some o→JjF o=true)∧(m<e.w.heap.size→∀ o,JeJ w' m o→e.S m o))
  (hp:Φ.p w' v' μ') :
  WInv Γ { h with H:=upd h.H n (some (row.set j (.kc Φ))) } { e with w:=w',S:=fun c o=>e.S c o∨(e.w.heap.size≤c∧c<w'.heap.size),μ:=fun k m=>if k=n then μ' m else e.μ k m } ∧
   e.le { e with w:=w',S:=fun c o=>e.S c o∨(e.w.heap.size≤c∧c<w'.heap.size),μ:=fun k m=>if k=n then μ' m else e.μ k m }:=by
 have hnn:h.H n≠none:=by rw[hn]; simp
 obtain⟨b0,cs0,ty0,q1,q2,q3,q4,q5⟩:=hw.boxAt hρ row hn (ZO hrow)
 rw[hρ]at q1; simp at q1; subst q1
 rw[hb]at q2; simp at q2; obtain⟨rfl,rfl⟩:=q2
 have hτ:e.τ n=some (tyV ty):=by
  obtain⟨ob,o1,o2,_⟩:=hw.boxAny hρ row hn
  rw[hb]at o1; cases o1
  exact o2.ty hrow
 have hblt:b<e.w.heap.size:=(Array.getElem?_eq_some_iff.1 hb).1
 have hle:e.le { e with w:=w',S:=fun c o=>e.S c o∨(e.w.heap.size≤c∧c<w'.heap.size),μ:=fun k m=>if k=n then μ' m else e.μ k m }:=⟨Keep.mk fun c o hc hs=>by
  have hlt:=hc.lt
  have h1:c≠b:=fun he=>by
   subst he
   exact hs (hw.ownS' hρ hnn hc)
  have h2:¬ e.μ n c:=fun hm=>hs ((hw.ext.mu n c hnn hm).s o hc)
  exact⟨same c hlt h1 h2,fun h'=>h'.elim hs (fun h'=>by omega)⟩,fun _ _ h=>h,fun _ _ h=>h⟩
 have g:∀ i,upd h.H n (some (row.set j (.kc Φ))) i≠none→h.H i≠none:=fun i hi=>by
  by_cases hin:i=n
  ·subst hin; exact hnn
  ·simpa [upd,hin] using hi
 have old:∀ c,c<Γ.B→¬ Γ.M c→w'.heap[c]? = e.w.heap[c]? := fun c hc hm=>by
  refine same c (Nat.lt_of_lt_of_le hc hw.hB) (fun he=>?_) (fun hmu=>?_)
  ·subst he
   rcases q5 with h | h
   ·omega
   ·exact hm h
  ·rcases (hw.ext.mu n c hnn hmu).own with h | h
   ·omega
   ·exact hm h
 have oBox:∀ m r b',m≠n→h.H m=some r→e.ρ m=some b'→b'<e.w.heap.size∧w'.heap[b']? = e.w.heap[b']? := fun m r b' hmn hm hρm=>by
  have hmm:h.H m≠none:=by rw[hm]; simp
  obtain⟨ob,o1,_⟩:=hw.boxAny hρm r hm
  have hlt:=(Array.getElem?_eq_some_iff.1 o1).1
  exact⟨hlt,same b' hlt (fun he=>hmn (hw.inj m n b' hmm hnn hρm (he ▸ hρ))) (fun hmu=>(hw.ext.mu n b' hnn hmu).box m hmm hρm)⟩
 have oTok:∀ k t v c,h.T k=some t→e.τ k=some v→¬ Vw v→v.ownBlock=some c→c<e.w.heap.size∧w'.heap[c]? = e.w.heap[c]? := fun k t v c hk hv hf hc=>by
  obtain⟨h0,u,h1,hor⟩:=hw.tok k t hk
  rw[hv]at h1; simp at h1; subst h1
  obtain⟨sz,m,xs,z1,z2,z3,z4⟩:=hor.resolve_left hf
  have hlt:=(z2.1.lt c hc).2
  exact⟨hlt,same c hlt (fun he=>z4 c hc n hnn (he ▸ hρ)) (fun hmu=>(hw.ext.mu n c hnn hmu).tok k v (by rw[hk]; simp) hv hf hc)⟩
 refine⟨?_,hle⟩
 constructor
 ·exact hw.g0
 ·exact hos.trans hw.os
 ·exact htape.trans hw.tape
 ·exact hout.trans hw.output
 ·exact Nat.le_trans hw.grown hsz
 ·exact Nat.le_trans hw.hB hsz
 ·intro c hc hm; exact(old c hc hm).trans (hw.old c hc hm)
 ·intro c o hc
  rcases hc with hc | hc
  ·exact Nat.lt_of_lt_of_le (hw.sdom c o hc) hsz
  ·exact hc.2
 ·intro c o h0 hm; exact .inl (hw.s0 c o h0 hm)
 ·exact hw.s0B
 ·exact hw.keep.trans hle.keep
 ·intro m r hmr
  by_cases hmn:m=n
  ·subst hmn
   simp only[upd_same,Option.some.injEq]at hmr
   subst hmr
   refine .inr ⟨b,_,hρ,hb',RO.of (.of ?_) (fun _=>hτ),fun o ho=>.inl (q4 o ?_),q5⟩
   ·rw[hl]
    exact RCs.setK Φ v' j (RCs.mono hle (q3.plain hrow))
   ·have e1:cs'.size=cs.size:=by rw[← Array.length_toList,hl]; simp
    simp only[JcE]at ho
    omega
  ·simp only[upd,hmn,if_false]at hmr
   rcases hw.box m r hmr with hz | ⟨b',ob,h1,h2,h3,h4,h5⟩
   ·exact .inl hz
   exact .inr ⟨b',ob,h1,(oBox m r b' hmn hmr h1).2.trans h2,RO.mono hle h3,fun o ho=>.inl (h4 o ho),h5⟩
 ·intro m m' c hm hm'
  exact hw.inj m m' c (g m hm) (g m' hm')
 ·intro k t hk
  obtain⟨h0,v,h1,hor⟩:=hw.tok k t hk
  by_cases hf:Vw v
  ·exact⟨h0,v,h1,.inl hf⟩
  obtain⟨sz,m,xs,z1,z2,z3,z4⟩:=hor.resolve_left hf
  refine⟨h0,v,h1,.inr ⟨sz,m,xs,z1,⟨Jaj z2.1 (fun c hc=>(oTok k t v c hk h1 hf hc).2),z2.2⟩,fun c o hc ho hs=>?_,fun c hc i hi=>z4 c hc i (g i hi)⟩⟩
  have hce:w'.cell? ⟨c,o,none⟩=e.w.cell? ⟨c,o,none⟩:=World.cell?_of_block (oTok k t v c hk h1 hf hc).2
  exact .inl (z3 c o hc ho (by rw[← hce]; exact hs))
 ·exact hw.tokinj
 ·intro m hm
  obtain⟨g1,g2,g3,g4,g5⟩:=hw.fresh m hm
  have hmn:m≠n:=fun he=>by rw[he]at g1; exact hnn g1
  exact⟨by simp[upd,hmn,g1],g2,g3,g4,fun x hx=>g5 x (by simpa [hmn] using hx)⟩
 ·exact hw.nx0
 ·exact hw.rt
 ·-- what boxes own besides
  have cas:∀ i m,upd h.H n (some (row.set j (.kc Φ))) i≠none→(if i=n then μ' m else e.μ i m)→(i=n∧μ' m)∨(i≠n∧h.H i≠none∧e.μ i m):=fun i m hi hm=>by
   by_cases hin:i=n
   ·exact .inl ⟨hin,by simpa [hin] using hm⟩
   ·exact .inr ⟨hin,g i hi,by simpa [hin] using hm⟩
  have oMu:∀ i m,i≠n→h.H i≠none→e.μ i m→w'.heap[m]? = e.w.heap[m]? := fun i m hin hi hm=>by
   have q:=hw.ext.mu i m hi hm
   exact same m q.lt (fun he=>q.box n hnn (he ▸ hρ)) (fun hmu=>hin (q.one n hnn hmu).symm)
  refine⟨fun i m hi hm=>?_,fun i r k Ψ hi hk=>?_⟩
  ·rcases cas i m hi hm with⟨rfl,hm2⟩|⟨hin,hi,hm⟩
   ·obtain⟨k1,k2,k3,k4⟩:=hμ m hm2
    refine⟨k2,fun o hx=>?_,?_,fun a ha hρa=>?_,fun a v ha hv hf hb2=>?_,fun a ha ham=>?_,k3⟩
    ·rcases Nat.lt_or_ge m e.w.heap.size with h1 | h1
     ·exact .inl (k4 h1 o hx)
     ·exact .inr ⟨h1,k2⟩
    ·rcases k1 with k1 | k1 | k1
     ·exact(hw.ext.mu i m hnn k1).own
     ·exact .inl (Nat.le_trans hw.hB k1)
     ·exact k1.own
    ·rcases k1 with k1 | k1 | k1
     ·exact(hw.ext.mu i m hnn k1).box a (g a ha) hρa
     rotate_left
     ·exact k1.box a (g a ha) hρa
     ·obtain⟨ra,hra⟩:=Option.ne_none_iff_exists'.1 (g a ha)
      obtain⟨ob,o1,_⟩:=hw.boxAny hρa ra hra
      have:=(Array.getElem?_eq_some_iff.1 o1).1
      omega
    ·rcases k1 with k1 | k1 | k1
     ·exact(hw.ext.mu i m hnn k1).tok a v ha hv hf hb2
     rotate_left
     ·exact k1.tok a v ha hv hf hb2
     ·obtain⟨ta,hta⟩:=Option.ne_none_iff_exists'.1 ha
      have:=(oTok a ta v m hta hv hf hb2).1
      omega
    ·rcases cas a m ha ham with⟨rfl,_⟩|⟨han,ha,ham⟩
     ·rfl
     ·have q:=hw.ext.mu a m ha ham
      rcases k1 with k1 | k1 | k1
      ·exact absurd (q.one i hnn k1).symm han
      ·have:=q.lt; omega
      ·exact absurd ham (k1.mu a ha)
   ·have q:=hw.ext.mu i m hi hm
    have hblk:=oMu i m hin hi hm
    refine⟨Nat.lt_of_lt_of_le q.lt hsz,fun o hx=>.inl (q.s o (hx.of hblk)),q.own,fun a ha hρa=>q.box a (g a ha) hρa,q.tok,fun a ha ham=>?_,fun o ho=>q.ob o (hblk ▸ ho)⟩
    ·rcases cas a m ha ham with⟨rfl,ham2⟩|⟨han,ha,ham⟩
     ·rcases (hμ m ham2).1 with k1 | k1 | k1
      ·exact absurd (q.one a hnn k1).symm hin
      ·have:=q.lt; omega
      ·exact absurd (show e.μ i m by simpa [hin] using hm) (k1.mu i (g i hi))
     ·exact q.one a ha ham
  ·by_cases hin:i=n
   ·subst hin
    simp only[upd_same,Option.some.injEq]at hi
    subst hi
    have hkj:k=j:=Classical.byContradiction fun hne=>by
     rw[List.getElem?_set_ne (Ne.symm hne)]at hk
     exact hone k Ψ hne hk
    subst hkj
    rw[List.getElem?_set_self hj]at hk
    cases hk
    have hlen:=(q3.plain hrow).length
    refine⟨b,cs',ty,v',hρ,hb',?_,by simpa using hp⟩
    rw[← Array.getElem?_toList,hl,List.getElem?_set_self (by omega)]
   ·have hi':h.H i=some r:=by simpa [upd,hin] using hi
    obtain⟨b',cs2,ty2,v,k1,k2,k3,k4⟩:=hw.ext.kc i r k Ψ hi' hk
    refine⟨b',cs2,ty2,v,k1,(oBox i r b' hin hi' k1).2.trans k2,k3,Ψ.fr _ _ _ _ _ k4 (fun m hm=>oMu i m hin (by rw[hi']; simp) hm) (fun m hm=>by simpa [hin] using hm)⟩
theorem WInv.newBoxX{Γ:Ctx}{h:Hp}{e:Env}(hw:WInv Γ h e){cs:Array Value}{ty:TypeId}{row:List C}(hr:∀ e':Env,e.le e'→e'.τ h.nx=some (tyV ty)→RCs e' row cs.toList)(hkc:∀ c∈row,c.noK=true):
  ∃ e',e'.w=e.w.alloc (.cells cs ty)∧WInv Γ (h.box row) e'∧e.le e'∧e'.ρ=upd e.ρ h.nx (some e.w.heap.size)∧e'.τ=upd e.τ h.nx (some (tyV ty))∧e'.μ=e.μ∧∀ b o,e'.S b o↔(e.S b o∨b=e.w.heap.size):=by
 have hg:=Grows.alloc e.w (.cells cs ty)
 obtain⟨w1,l1⟩:=hw.grows (S':=fun b o=>e.S b o∨b=e.w.heap.size) hg (fun b o hb=>⟨fun h=>h.resolve_right (by omega),.inl⟩) (fun b o hb=>by
  simp
  rcases hb with hb | hb
  ·have:=hw.sdom b o hb; omega
  ·omega)
 have hnew:∀ n b,h.H n≠none→e.ρ n=some b→b<e.w.heap.size:=fun n b hn hb=>by
  cases hH:h.H n with
  | none=>exact absurd hH hn
  | some r =>
   obtain⟨ob,q2,_⟩:=hw.boxAny hb r hH
   exact(Array.getElem?_eq_some_iff.1 q2).1
 obtain⟨w2,l2⟩:=w1.addArr (b:=e.w.heap.size) (u:=tyV ty) (row:=row) (heap_alloc_new _ _) (RO.of (.of (hr _ (l1.trans ((Env.le_name (b:=e.w.heap.size) (w1.fresh h.nx (Nat.le_refl _)).2.2.1).trans (Env.le_tok (w1.fresh h.nx (Nat.le_refl _)).2.2.2.1))) (by simp))) (fun _=>by simp)) (fun o _=>.inr rfl) (.inl hw.hB)
  (fun n hn hb=>by have:=hnew n _ hn hb; omega)
  (fun k v hk hv hfull hb=>by
   cases hT:h.T k with
   | none=>exact absurd hT hk
   | some ty =>
    obtain⟨_,v',q1,q2⟩:=hw.tok k ty hT
    simp only at hv
    rw[hv]at q1; simp at q1; subst q1
    obtain⟨sz,n,xs,_,q2,_⟩:=q2.resolve_left hfull
    have:=(q2.1.lt _ hb).2
    omega)
  (fun n hn hm=>by have:=(hw.ext.mu n _ hn hm).lt; omega) hkc
 exact⟨_,rfl,w2,l1.trans l2,rfl,rfl,rfl,fun _ _=>Iff.rfl⟩
end Go.Proofs.Ytaofbminodhcnaa
