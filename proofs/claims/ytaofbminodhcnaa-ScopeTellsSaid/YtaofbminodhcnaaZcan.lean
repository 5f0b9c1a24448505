/- Maps that are boxes by themselves. -/
import Derived.Test.YtaofbminodhcnaaZcal
set_option linter.unusedVariables false
set_option linter.unusedSimpArgs false
namespace Go.Proofs.Ytaofbminodhcnaa
open Go.RowKit Go.Maps
def OM(P:Program)(k:TypeId)(n:Nat)(D:DataW Unit):OP:=⟨JoE P k n D,by rintro o ⟨es,c,rfl,_⟩; rfl⟩
theorem JkC{P:Program}{k:TypeId}{n:Nat}{D:DataW Unit}{o:Obj}(h:JoE P k n D o):JcE o=1:=by
 obtain⟨es,c,rfl,_⟩:=h; rfl
theorem WInv.obView{Γ:Ctx}{h:Hp}{e:Env}(hw:WInv Γ h e){n:Nat}{Φ:OP}(hn:h.H n=some [.ob Φ]):∃ b o,e.ρ n=some b∧e.w.heap[b]? = some o∧Φ.p o∧(∀ i,i<JcE o→e.S b i)∧(Γ.B≤b∨Γ.M b):=by
 rcases hw.box n _ hn with⟨_,h1⟩|⟨b,o,h1,h2,h3,h4,h5⟩
 ·rcases h1 with⟨sz,h1,_⟩ | h1 <;> simp at h1
 ·exact⟨b,o,h1,h2,h3.2,h4,h5⟩
theorem WInv.obSet{Γ:Ctx}{h:Hp}{e:Env}(hw:WInv Γ h e){n b:Nat}{Φ:OP}{o o':Obj}(Φ':OP){w':World}
  (hn:h.H n=some [.ob Φ]) (hρ:e.ρ n=some b) (hb:e.w.heap[b]? = some o) (hb':w'.heap[b]? = some o') (hΦ:Φ'.p o') (ho:JcE o'≤JcE o)
  (hos:w'.os=e.w.os) (htape:w'.tape=e.w.tape) (hout:w'.output=e.w.output) (hsz:e.w.heap.size≤w'.heap.size)
  (same:∀ k,k<e.w.heap.size→k≠b→w'.heap[k]? = e.w.heap[k]?) :
  WInv Γ { h with H:=upd h.H n (some [.ob Φ']) } { e with w:=w',S:=fun c o=>e.S c o∨(e.w.heap.size≤c∧c<w'.heap.size) } ∧
   e.le { e with w:=w',S:=fun c o=>e.S c o∨(e.w.heap.size≤c∧c<w'.heap.size) }:=by
 have hnn:h.H n≠none:=by rw[hn]; simp
 obtain⟨b0,o0,q1,q2,q3,q4,q5⟩:=hw.obView hn
 rw[hρ]at q1; simp at q1; subst q1
 rw[hb]at q2; simp at q2; subst q2
 have hblt:b<e.w.heap.size:=(Array.getElem?_eq_some_iff.1 hb).1
 have hle:e.le { e with w:=w',S:=fun c o=>e.S c o∨(e.w.heap.size≤c∧c<w'.heap.size) }:=⟨Keep.mk fun c o hc hs=>by
  have hlt:=hc.lt
  have h1:c≠b:=fun he=>by
   subst he
   exact hs (hw.ownS' hρ hnn hc)
  exact⟨same c hlt h1,fun h'=>h'.elim hs (fun h'=>by omega)⟩,fun _ _ h=>h,fun _ _ h=>h⟩
 have g:∀ i,upd h.H n (some [.ob Φ']) i≠none→h.H i≠none:=fun i hi=>by
  by_cases hin:i=n
  ·subst hin; exact hnn
  ·simpa [upd,hin] using hi
 have old:∀ c,c<Γ.B→¬ Γ.M c→w'.heap[c]? = e.w.heap[c]? := fun c hc hm=>by
  refine same c (Nat.lt_of_lt_of_le hc hw.hB) (fun he=>?_)
  subst he
  rcases q5 with h | h
  ·omega
  ·exact hm h
 have oBox:∀ m r b',m≠n→h.H m=some r→e.ρ m=some b'→b'<e.w.heap.size∧w'.heap[b']? = e.w.heap[b']? := fun m r b' hmn hm hρm=>by
  have hmm:h.H m≠none:=by rw[hm]; simp
  obtain⟨ob,o1,_⟩:=hw.boxAny hρm r hm
  have hlt:=(Array.getElem?_eq_some_iff.1 o1).1
  exact⟨hlt,same b' hlt (fun he=>hmn (hw.inj m n b' hmm hnn hρm (he ▸ hρ)))⟩
 have oTok:∀ k t v c,h.T k=some t→e.τ k=some v→¬ Vw v→v.ownBlock=some c→c<e.w.heap.size∧w'.heap[c]? = e.w.heap[c]? := fun k t v c hk hv hf hc=>by
  obtain⟨h0,u,h1,hor⟩:=hw.tok k t hk
  rw[hv]at h1; simp at h1; subst h1
  obtain⟨sz,m,xs,z1,z2,z3,z4⟩:=hor.resolve_left hf
  have hlt:=(z2.1.lt c hc).2
  exact⟨hlt,same c hlt (fun he=>z4 c hc n hnn (he ▸ hρ))⟩
 have oMu:∀ i m,h.H i≠none→e.μ i m→w'.heap[m]? = e.w.heap[m]? := fun i m hi hm=>by
  have q:=hw.ext.mu i m hi hm
  exact same m q.lt (fun he=>q.box n hnn (he ▸ hρ))
 refine⟨?_,hle⟩
 constructor
 ·exact hw.g0
 ·exact hos.trans hw.os
 ·exact htape.trans hw.tape
 ·exact hout.trans hw.output
 ·exact Nat.le_trans hw.grown hsz
 ·exact Nat.le_trans hw.hB hsz
 ·intro c hc hm; exact(old c hc hm).trans (hw.old c hc hm)
 ·intro c o hc
  rcases hc with hc | hc
  ·exact Nat.lt_of_lt_of_le (hw.sdom c o hc) hsz
  ·exact hc.2
 ·intro c o h0 hm; exact .inl (hw.s0 c o h0 hm)
 ·exact hw.s0B
 ·exact hw.keep.trans hle.keep
 ·intro m r hmr
  by_cases hmn:m=n
  ·subst hmn
   simp only[upd_same,Option.some.injEq]at hmr
   subst hmr
   exact .inr ⟨b,_,hρ,hb',⟨rfl,hΦ⟩,fun i hi=>.inl (q4 i (by omega)),q5⟩
  ·simp only[upd,hmn,if_false]at hmr
   rcases hw.box m r hmr with hz | ⟨b',ob,h1,h2,h3,h4,h5⟩
   ·exact .inl hz
   exact .inr ⟨b',ob,h1,(oBox m r b' hmn hmr h1).2.trans h2,RO.mono hle h3,fun o ho=>.inl (h4 o ho),h5⟩
 ·intro m m' c hm hm'
  exact hw.inj m m' c (g m hm) (g m' hm')
 ·intro k t hk
  obtain⟨h0,v,h1,hor⟩:=hw.tok k t hk
  by_cases hf:Vw v
  ·exact⟨h0,v,h1,.inl hf⟩
  obtain⟨sz,m,xs,z1,z2,z3,z4⟩:=hor.resolve_left hf
  refine⟨h0,v,h1,.inr ⟨sz,m,xs,z1,⟨Jaj z2.1 (fun c hc=>(oTok k t v c hk h1 hf hc).2),z2.2⟩,fun c o hc ho hs=>?_,fun c hc i hi=>z4 c hc i (g i hi)⟩⟩
  have hce:w'.cell? ⟨c,o,none⟩=e.w.cell? ⟨c,o,none⟩:=World.cell?_of_block (oTok k t v c hk h1 hf hc).2
  exact .inl (z3 c o hc ho (by rw[← hce]; exact hs))
 ·exact hw.tokinj
 ·intro m hm
  obtain⟨g1,g2,g3,g4,g5⟩:=hw.fresh m hm
  have hmn:m≠n:=fun he=>by rw[he]at g1; exact hnn g1
  exact⟨by simp[upd,hmn,g1],g2,g3,g4,g5⟩
 ·exact hw.nx0
 ·exact hw.rt
 ·refine⟨fun i m hi hm=>?_,fun i r k Ψ hi hk=>?_⟩
  ·have q:=hw.ext.mu i m (g i hi) hm
   have hblk:=oMu i m (g i hi) hm
   refine⟨Nat.lt_of_lt_of_le q.lt hsz,fun o hx=>.inl (q.s o (hx.of hblk)),q.own,fun a ha hρa=>q.box a (g a ha) hρa,q.tok,fun a ha ham=>q.one a (g a ha) ham,fun o ho=>q.ob o (hblk ▸ ho)⟩
  ·by_cases hin:i=n
   ·subst hin
    simp only[upd_same,Option.some.injEq]at hi
    subst hi
    rcases k with _ | k <;> simp at hk
   ·have hi':h.H i=some r:=by simpa [upd,hin] using hi
    obtain⟨b',cs2,ty2,v,k1,k2,k3,k4⟩:=hw.ext.kc i r k Ψ hi' hk
    exact⟨b',cs2,ty2,v,k1,(oBox i r b' hin hi' k1).2.trans k2,k3,Ψ.fr _ _ _ _ _ k4 (fun m hm=>oMu i m (by rw[hi']; simp) hm) (fun m hm=>hm)⟩
theorem WInv.obNew{Γ:Ctx}{h:Hp}{e:Env}(hw:WInv Γ h e){o:Obj}{Φ:OP}(hΦ:Φ.p o):
  ∃ e',e'.w=e.w.alloc o∧WInv Γ (h.box [.ob Φ]) e'∧e.le e'∧e'.ρ h.nx=some e.w.heap.size:=by
 have hg:=Grows.alloc e.w o
 obtain⟨w1,l1⟩:=hw.grows (S':=fun b o=>e.S b o∨b=e.w.heap.size) hg (fun b o hb=>⟨fun h=>h.resolve_right (by omega),.inl⟩) (fun b o hb=>by
  simp
  rcases hb with hb | hb
  ·have:=hw.sdom b o hb; omega
  ·omega)
 have hnew:∀ n b,h.H n≠none→e.ρ n=some b→b<e.w.heap.size:=fun n b hn hb=>by
  cases hH:h.H n with
  | none=>exact absurd hH hn
  | some r =>
   obtain⟨ob,q2,_⟩:=hw.boxAny hb r hH
   exact(Array.getElem?_eq_some_iff.1 q2).1
 obtain⟨w2,l2⟩:=w1.addArr (b:=e.w.heap.size) (u:=.bool false) (row:=[.ob Φ]) (heap_alloc_new _ _) ⟨rfl,hΦ⟩ (fun o _=>.inr rfl) (.inl hw.hB)
  (fun n hn hb=>by have:=hnew n _ hn hb; omega)
  (fun k v hk hv hfull hb=>by
   cases hT:h.T k with
   | none=>exact absurd hT hk
   | some ty =>
    obtain⟨_,v',q1,q2⟩:=hw.tok k ty hT
    simp only at hv
    rw[hv]at q1; simp at q1; subst q1
    obtain⟨sz,n,xs,_,q2,_⟩:=q2.resolve_left hfull
    have:=(q2.1.lt _ hb).2
    omega)
  (fun n hn hm=>by have:=(hw.ext.mu n _ hn hm).lt; omega) (fun c hc=>by simp at hc; subst hc; rfl)
 exact⟨_,rfl,w2,l1.trans l2,by simp⟩
abbrev MI:=List (Int×Int)
def dMI:MI→DataW Unit
 | []=>.map []
 | (k,v)::r=>(dMI r).put (.int .i64 k) (.lit (.int .i64 v))
theorem Jl2:∀ L,IsMap (dMI L)
 | []=>⟨_,rfl⟩
 | (_,_)::r=>by
  obtain⟨es,h⟩:=Jl2 r
  exact⟨_,by rw[dMI,h]; rfl⟩
def iGet:MI→Int→Option Int
 | [],_=>none
 | (k,v)::r,s=>if s=k then some v else iGet r s
theorem JtK(s:Int)(z:DataW Unit):∀ L,(dMI L).atKey (.int .i64 s) z=match iGet L s with | some x=>.lit (.int .i64 x) | none=>z
 | []=>rfl
 | (k,v)::r=>by
  by_cases e:s=k
  ·subst e
   rw[iGet,if_pos rfl]
   exact atKey_put_same (k:=.int .i64 s) (Jl2 r) True.intro _ _
  ·have hne:Lit.int .i64 s≠Lit.int .i64 k:=fun q=>e (by cases q; rfl)
   rw[iGet,if_neg e]
   exact(atKey_put_other hne _ _).trans (JtK s z r)
theorem JqT(s:Int):∀ L,has (dMI L) (.int .i64 s)=(iGet L s).isSome
 | []=>rfl
 | (k,v)::r=>by
  by_cases e:s=k
  ·subst e
   rw[iGet,if_pos rfl]
   exact has_put_same (k:=.int .i64 s) (Jl2 r) True.intro _
  ·have hne:Lit.int .i64 s≠Lit.int .i64 k:=fun q=>e (by cases q; rfl)
   rw[iGet,if_neg e]
   exact(has_put_other hne _).trans (JqT s r)
end Go.Proofs.Ytaofbminodhcnaa
