/- append. -/
import Derived.Test.YtfkhlbhjhdpkoaaDoorZtaa
import Derived.Lib.FrozenHead
import Derived.Lib.ConvBytes
set_option linter.unusedVariables false
set_option linter.unusedSimpArgs false
namespace Go.Proofs.YtfkhlbhjhdpkoaaDoor
open Go.RowKit
def V2(P:Program)(t:TypeId):Nat:=((P.info? t).map (·.bytes)).getD 0
def tZ1(P:Program)(t:TypeId):Bool:=match (P.info? t).bind (·.zero) with | some (.int .u8 n)=>n == 0 | _=>false
def Hp.tok(h:Hp)(k:Nat)(el:TypeId):Hp:={ h with T:=upd (upd h.T k none) h.nx (some el),nx:=h.nx+1 }
theorem Jdl{w:World}{B ty sz n:Nat}{v:Value}{xs:List Value}(h:w.ownsRow B ty sz v n xs):
  (v=.slice none 0 0)∨∃ g cap cur,v=.slice (some ⟨g,0,none⟩) n cap∧B≤g∧w.heap[g]? = some (.cells cur ty (0,0))∧n≤cap∧cap≤maxLen∧cur.size=cap * sz∧cur.toList.take (n * sz)=xs:=by
 rcases h.2 with⟨h1,_⟩ | h2
 ·exact .inl h1
 ·exact .inr h2
theorem WInv.tokFull{Γ:Ctx}{h:Hp}{e:Env}(hw:WInv Γ h e)(ty:TypeId){v:Value}(hv:KX v):
  ∃ e',e'.w=e.w∧WInv Γ { h with T:=upd h.T h.nx (some ty),nx:=h.nx+1 } e'∧e.le e':=by
 obtain⟨w1,l1⟩:=hw.addTok (v:=v) (ty:=ty) (.inl hv) (fun h=>absurd hv h)
 exact⟨{ e with τ:=upd e.τ h.nx (some v) },rfl,w1,l1⟩
theorem WInv.newArr{Γ:Ctx}{h:Hp}{e:Env}(hw:WInv Γ h e){el:TypeId}{sz cap:Nat}{l:List D}{vs zs:List Value}{cur:Array Value}
  (hsz:0<sz∧sz=Jl Γ.P el) (hr:Rn e.w e.S (l.flatMap D.cells) vs) (hd:∀ d∈l,d.cells.length=sz) (hcur:cur.toList=vs++zs) (hcs:cur.size=cap * sz) (hcap:l.length≤cap) (hmax:cap≤maxLen) :
  ∃ e',e'.w=e.w.drew.alloc (.cells cur el)∧WInv Γ { h with T:=upd h.T h.nx (some el),nx:=h.nx+1 } e'∧e.le e' ∧
   RC e' (.sl sz l h.nx) (.slice (some ⟨e.w.heap.size,0,none⟩) l.length cap):=by
 have hnx0:h.nx≠0:=by have:=hw.nx0; omega
 have hg:Grows e.w (e.w.drew.alloc (.cells cur el)):=(Grows.drew e.w).trans (Grows.alloc _ _)
 have hvl:vs.length=l.length * sz:=by rw[hr.length,Kz hd]
 obtain⟨w1,l1⟩:=hw.grows (S':=fun b o=>e.S b o∨(b=e.w.heap.size∧l.length * sz≤o)) hg (fun b o hb=>⟨fun h=>h.resolve_right (fun h=>by omega),.inl⟩) (fun b o hb=>by
  simp
  rcases hb with hb | hb
  ·have:=hw.sdom b o hb; omega
  ·omega)
 have hcell:∀ j,(e.w.drew.alloc (.cells cur el)).cell? ⟨e.w.heap.size,j,none⟩=cur[j]? := fun j=>JeP e.w.drew cur el j
 have hnew:(e.w.drew.alloc (.cells cur el)).heap[e.w.heap.size]? = some (.cells cur el (0,0)):=heap_alloc_new e.w.drew _
 have howns:Jel Γ (e.w.drew.alloc (.cells cur el)) el sz (.slice (some ⟨e.w.heap.size,0,none⟩) l.length cap) l.length vs :=
  ⟨⟨hvl,.inr ⟨e.w.heap.size,cap,cur,rfl,Nat.zero_le _,hnew,hcap,hmax,hcs,by rw[hcur,← hvl]; simp⟩⟩,fun b hb=>by simp[Value.ownBlock]at hb; subst hb; exact .inl hw.hB⟩
 obtain⟨w2,l2⟩:=w1.addTok (v:=.slice (some ⟨e.w.heap.size,0,none⟩) l.length cap) (ty:=el) (.inr ⟨sz,l.length,vs,hsz,howns,
  (fun b o hb ho _=>by simp[Value.ownBlock]at hb; exact .inr ⟨hb.symm,ho⟩),
  (fun b hb m hm hρ=>by
   simp[Value.ownBlock]at hb
   subst hb
   cases hH:h.H m with
   | none=>exact hm hH
   | some r =>
    simp only at hρ
    obtain⟨ob,q2,_⟩:=hw.boxAny hρ r hH
    have:=(Array.getElem?_eq_some_iff.1 q2).1
    omega)⟩)
  (fun _ k u b hk hu hb hfull hb'=>by
   simp[Value.ownBlock]at hb'
   cases hT:h.T k with
   | none=>exact hk hT
   | some ty =>
    obtain⟨_,v',q1,q2⟩:=hw.tok k ty hT
    simp only at hu
    rw[hu]at q1; simp at q1; subst q1
    obtain⟨sz',n,xs,_,q2,_⟩:=q2.resolve_left hfull
    have:=(q2.1.lt _ hb).2
    omega)
 refine⟨_,rfl,w2,l1.trans l2,?_,?_⟩
 ·refine RD.sl sz l vs e.w.heap.size 0 cap (RD.mono (l1.trans l2).keep hr) (fun i x hx=>?_) hd hcap
  have hil:i<vs.length:=(List.getElem?_eq_some_iff.1 hx).1
  refine⟨?_,fun hS=>?_⟩
  ·show(e.w.drew.alloc (.cells cur el)).cell? _=_
   rw[Nat.zero_add,hcell,← Array.getElem?_toList,hcur,List.getElem?_append_left hil,hx]
  ·rcases hS with hS | ⟨_,hS⟩
   ·have:=hw.sdom _ _ hS; omega
   ·omega
 ·exact .inr ⟨hnx0,by simp⟩
def Xz(P:Program)(h:Hp)(t:TypeId)(n sz len szy:Nat)(ys:List D)(op:List C):Option (List C)→AR
 | some (.arr sz' l::cs)=>⟨JM P t=true∧tZok P (Jk P t)=true∧(tZ P (Jk P t)).length=Jl P (Jk P t)∧0<sz∧sz=Jl P (Jk P t)∧sz=sz'∧szy=sz∧len≤l.length+cs.length ∧
   cs.all C.isD=true∧(cs.map C.toD).all D.one=true∧(op=[]∨sz=1)∧(len+(ys.length+op.length)) * V2 P (Jk P t)≤140737488355328∧len+(ys.length+op.length)≤9223372036854775807 ∧
   (∀ y∈ys,y.cells.all D.one=true)∧op.all C.one=true,
   .c (.os h.nx sz 0 (len+(ys.length+op.length))),{ h with H:=upd (upd h.H n none) h.nx (some (.arr sz ((l++cs.map C.toD).take len++ys)::op)),nx:=h.nx+1 }⟩
 | _=>.bad h
def ysOf(h:Hp):AV→Option (Prop×Nat×List D)
 | .c (.os n sz off len)=>match h.H n with
  | some [.arr sz' l]=>some (sz'=sz∧off+len≤l.length,sz,(l.drop off).take len)
  | _=>none
 | .c .nl=>some (True,1,[.sl 11 []])
 | a=>match slD a with
  | some (sz,l)=>some (True,sz,l)
  | none=>none
def VE(P:Program)(h:Hp)(t:TypeId)(n sz len:Nat)(ys:List UInt8):Option (List C)→AR
 | some [.bar l]=>⟨JM P t=true∧Jk P t=UTY∧P.underlying (Jk P t)=some (.int .u8)∧V2 P (Jk P t)=1∧Jl P (Jk P t)=1∧tZ1 P (Jk P t)=true∧sz=1∧len=l.length∧l.length+ys.length≤140737488355328,
   .c (.os h.nx 1 0 (l.length+ys.length)),{ h with H:=upd (upd h.H n none) h.nx (some [.bar (l++ys)]),nx:=h.nx+1 }⟩
 | _=>.bad h
def JeV:Option (List C)→Bool
 | some [.bar _]=>true
 | _=>false
def Jdi:AV→Option (Prop×UInt8)
 | .c (.sl 1 [.v (.int .u8 n)] _)=>some (n=((UInt8.ofNat n.toNat).toNat:Int),UInt8.ofNat n.toNat)
 | _=>none
def Zh(P:Program)(h:Hp)(t:TypeId)(sz:Nat)(l:List D):Option (Prop×Nat×List D)→AR
 | some (p,szy,ys)=>⟨JM P t=true∧tZok P (Jk P t)=true∧(tZ P (Jk P t)).length=Jl P (Jk P t)∧0<Jl P (Jk P t)∧(l=[]∨sz=Jl P (Jk P t))∧(ys=[]∨szy=Jl P (Jk P t))∧p ∧
   (l.length+ys.length) * V2 P (Jk P t)≤140737488355328∧l.length+ys.length≤9223372036854775807∧(∀ y∈ys,y.cells.all D.one=true)∧(l=[]∨0<ys.length),
   .c (.os h.nx (Jl P (Jk P t)) 0 (l.length+ys.length)),{ h with H:=upd h.H h.nx (some [.arr (Jl P (Jk P t)) (l++ys)]),nx:=h.nx+1 }⟩
 | none=>.bad h
def XX(P:Program)(h:Hp)(t:TypeId)(sz:Nat)(l:List D)(k:Nat):Option (Prop×Nat×List D)→AR
 | some (p,szy,ys)=>⟨JM P t=true∧tZok P (Jk P t)=true∧(tZ P (Jk P t)).length=Jl P (Jk P t)∧0<Jl P (Jk P t)∧(l=[]∨sz=Jl P (Jk P t))∧(ys=[]∨szy=Jl P (Jk P t)) ∧
   (k=0∨h.T k=some (Jk P t))∧(l.length+ys.length) * V2 P (Jk P t)≤140737488355328∧l.length+ys.length≤9223372036854775807∧(∀ y∈ys,y.cells.all D.one=true)∧p,
   .c (.sl (Jl P (Jk P t)) (l++ys) h.nx),h.tok k (Jk P t)⟩
 | none=>.bad h
def JbM(P:Program)(h:Hp)(t:TypeId)(n sz len:Nat)(x:AV):AR :=
 match x with
 | .c .nl=>Xz P h t n sz len 1 [] [.sl 0 [] 0] (h.H n)
 | x=>if JeV (h.H n)=true then(match Jdi x with | some (p,c)=>let r:=VE P h t n sz len [c] (h.H n); ⟨p∧r.pre,r.val,r.h⟩ | none=>.bad h)
  else match ysOf h x with
   | some (p,szy,ys)=>let r:=Xz P h t n sz len szy ys [] (h.H n); ⟨p∧r.pre,r.val,r.h⟩
   | none=>.bad h
def Zs(P:Program)(σ:Nat→AV)(h:Hp)(t:TypeId)(s x:Operand):AR :=
 match evA σ s with
 | .c (.sl sz l k)=>if JbY t=true∧k=0 then Zh P h t sz l (ysOf h (evA σ x)) else XX P h t sz l k (ysOf h (evA σ x))
 | .c (.fs sz l)=>if ZA t=true then Zh P h t sz l (ysOf h (evA σ x)) else .bad h
 | .c (.os n sz 0 len)=>if ZA t=true then JbM P h t n sz len (evA σ x) else .bad h
 | _=>.bad h
theorem Rn.one{w:World}{S:Nat→Nat→Prop}:∀ {l:List D} {vs:List Value},Rn w S l vs→l.all D.one=true→∀ v∈vs,v.oneCell'=true
 | [],_,h,_,v,hv=>by cases h; simp at hv
 | d::l,_,h,k,v,hv=>by
  cases h with
  | acons _ x _ vs h1 h2 =>
   simp only[List.all_cons,Bool.and_eq_true]at k
   simp only[List.mem_cons]at hv
   rcases hv with rfl | hv
   ·cases d with
    | v y=>have:=R1.vInv h1; subst this; exact k.1
    | sl _ _=>exact R1.slOne h1
    | _=>simp[D.one]at k
   ·exact Rn.one h2 k.2 v hv
theorem JhQ{l:List D}(h:∀ y∈l,y.cells.all D.one=true):(l.flatMap D.cells).all D.one=true:=by
 rw[List.all_eq_true]
 intro d hd
 rw[List.mem_flatMap]at hd
 obtain⟨y,hy,hdy⟩:=hd
 exact List.all_eq_true.1 (h y hy) d hdy
theorem WInv.newArrBox{Γ:Ctx}{h:Hp}{e:Env}(hw:WInv Γ h e){el:TypeId}{sz cap:Nat}{l:List D}{op:List C}{us ts zs:List Value}{cur:Array Value}
  (hcur:cur.toList=us++ts++zs) (hr:Rn e.w e.S (l.flatMap D.cells) us) (hd:∀ d∈l,d.cells.length=sz) (ho:RCs e op ts) (ho1:op=[]∨sz=1) (hsz:0<sz) (hcs:cur.size=cap * sz) (hmax:cap≤maxLen) :
  ∃ e',e'.w=e.w.drew.alloc (.cells cur el)∧WInv Γ { h with H:=upd h.H h.nx (some (.arr sz l::op)),nx:=h.nx+1 } e'∧e.le e'∧e'.ρ h.nx=some e.w.heap.size∧e'.τ h.nx=some (.slice none cap cap):=by
 have hg:Grows e.w (e.w.drew.alloc (.cells cur el)):=(Grows.drew e.w).trans (Grows.alloc _ _)
 obtain⟨w1,l1⟩:=hw.grows (S':=fun b o=>e.S b o∨b=e.w.heap.size) hg (fun b o hb=>⟨fun h=>h.resolve_right (by omega),.inl⟩) (fun b o hb=>by
  simp
  rcases hb with hb | hb
  ·have:=hw.sdom b o hb; omega
  ·omega)
 have hnew:(e.w.drew.alloc (.cells cur el)).heap[e.w.heap.size]? = some (.cells cur el (0,0)):=heap_alloc_new e.w.drew _
 obtain⟨f1,f2,f3,f4⟩:=w1.fresh h.nx (Nat.le_refl _)
 have hle:=(Env.le_name (b:=e.w.heap.size) f3).trans (Env.le_tok (v:=.slice none cap cap) (e:={ ({ e with w:=e.w.drew.alloc (.cells cur el),S:=fun b o=>e.S b o∨b=e.w.heap.size }:Env) with ρ:=upd e.ρ h.nx (some e.w.heap.size) }) f4)
 have hle2:=l1.trans hle
 obtain⟨w2,l2⟩:=w1.addArr (b:=e.w.heap.size) (ob:=.cells cur el) (row:=.arr sz l::op) (u:=.slice none cap cap) hnew
  (RO.arr ⟨us,ts,zs,cap,hcur,RD.mono hle2.keep hr,hd,RCs.mono hle2 ho,ho1,hsz,by simpa using hcs,hmax,by simp⟩) (fun o _=>.inr rfl) (.inl hw.hB)
  (fun n hn hb=>by
   cases hH:h.H n with
   | none=>exact hn hH
   | some r =>
    simp only at hb
    obtain⟨ob,q2,_⟩:=hw.boxAny hb r hH
    have:=(Array.getElem?_eq_some_iff.1 q2).1
    omega)
  (fun k v hk hv hfull hb=>by
   cases hT:h.T k with
   | none=>exact absurd hT hk
   | some ty =>
    obtain⟨_,v',q1,q2⟩:=hw.tok k ty hT
    simp only at hv
    rw[hv]at q1; simp at q1; subst q1
    obtain⟨sz,n,xs,_,q2,_⟩:=q2.resolve_left hfull
    have:=(q2.1.lt _ hb).2
    omega)
 exact⟨_,rfl,w2,l1.trans l2,by simp,by simp⟩
theorem JaU{P:Program}{w:World}{t ty el:TypeId}{base:Option Addr}{n cap:Nat}{xv:Value}{sz:Nat}(hu:P.underlying t=some (.slice el))(hs:(sizeOf el).run P w=.ok sz w)
  (hn:n≤cap) (hx:xv=.slice none 0 0∨∃ a c,xv=.slice (some a) 0 c):(Builtin.append_ #[t,t] ty #[.slice base n cap,xv]).run P w=.ok (.slice base n cap) w:=by
 rcases hx with rfl | ⟨a,c,rfl⟩ <;> cases base <;>
  simp[Builtin.append_,run_underlying hu,hs,Builtin.lenOf,hn,Builtin.firstCells,loadCells,loadCellsFrom,storeCells]
theorem R1.resize{w:World}{S:Nat→Nat→Prop}{sz sz':Nat}{l:List D}{v:Value}(h:R1 w S (.sl sz l) v)(hl:l=[]∨sz=sz'):R1 w S (.sl sz' l) v:=by
 rcases hl with rfl | rfl
 ·rcases h.slInv with⟨_,_,rfl⟩|⟨vs,b,o,cap,rfl,_⟩
  ·exact .slnil _ _
  ·exact RD.sl _ [] [] b o cap .anil (by simp) (by simp) (by simp)
 ·exact h
theorem WInv.inPlace{Γ:Ctx}{h:Hp}{e:Env}(hw:WInv Γ h e){k:Nat}{el:TypeId}{g n cap:Nat}{cur:Array Value}{xs news:List Value}{sz m:Nat}
  (hk:h.T k=some el) (hτ:e.τ k=some (.slice (some ⟨g,0,none⟩) n cap)) (hnf:n<cap) (hsz:0<sz∧sz=Jl Γ.P el)
  (hg:e.w.heap[g]? = some (.cells cur el (0,0))) (hB:Γ.B≤g∨Γ.M g) (hcs:cur.size=cap * sz) (hmax:cap≤maxLen) (hm:news.length=m * sz) (hroom:n+m≤cap) (hxs:cur.toList.take (n * sz)=xs) :
  ∃ e',e'.w=e.w.setRow g (cur.toList.take (n * sz)++news++cur.toList.drop (n * sz+news.length)).toArray∧WInv Γ (h.tok k el) e'∧e.le e' ∧
   e'.τ h.nx=some (.slice (some ⟨g,0,none⟩) (n+m) cap)∧(∀ i x,(xs++news)[i]? = some x→(∀ j,j<n * sz→¬ e.S g j)→e'.w.cell? ⟨g,i,none⟩=some x∧¬ e'.S g i):=by
 obtain⟨hk0,v,q1,qor⟩:=hw.tok k el hk
 rw[hτ]at q1
 simp at q1
 subst q1
 have hnfull:¬ KX (.slice (some ⟨g,0,none⟩) n cap):=by
  rintro ⟨a,m',hh⟩
  simp at hh; omega
 obtain⟨sz',n',xs',q2,q3,q4,q5⟩:=qor.resolve_left hnfull
 have hsz':sz'=sz:=by rw[q2.2,hsz.2]
 subst hsz'
 have hn':n'=n:=by
  rcases Jdl q3.1 with hh | ⟨g',cap',cur',hh,_⟩
  ·cases hh
  ·simp at hh; omega
 subst hn'
 generalize hcur':(cur.toList.take (n' * sz')++news++cur.toList.drop (n' * sz'+news.length)).toArray=cur'
 have hlen:n' * sz'+news.length≤cur.size:=by rw[hm,hcs,← Nat.add_mul]; exact Nat.mul_le_mul_right _ hroom
 have hsize:cur'.size=cur.size:=by rw[← hcur']; simp; omega
 have hspare:∀ o x,e.w.cell? ⟨g,o,none⟩=some x→¬ e.S g o→o<n' * sz':=fun o x hx hs=>by
  rcases Nat.lt_or_ge o (n' * sz') with h' | h'
  ·exact h'
  ·exact absurd (q4 g o rfl h' (by rw[hx]; rfl)) hs
 have hw1:=hw.dropTok k
 have hle:e.le { e with w:=e.w.setRow g cur',S:=fun c o=>e.S c o∧¬ (c=g∧n' * sz'≤o∧o<(n'+m) * sz') }:=⟨fun c o x hc hs=>by
  refine⟨?_,fun h'=>hs h'.1⟩
  by_cases hcg:c=g
  ·subst hcg
   have ho:=hspare o x hc hs
   show(e.w.setRow c cur').cell? _=_
   rw[cell_setRow_same _ _ _ _ _ _ _ hg,← hcur']
   have hx:cur[o]? = some x:=by simpa [World.cell?,hg] using hc
   have:(cur.toList.take (n' * sz'))[o]? = some x:=by rw[List.getElem?_take,if_pos ho]; simpa using hx
   have hl:o<(cur.toList.take (n' * sz')).length:=(List.getElem?_eq_some_iff.1 this).1
   simp only[List.getElem?_toArray]
   rw[List.append_assoc,List.getElem?_append_left hl,this]
  ·exact(World.cell?_of_block (setRow_other _ _ _ _ hcg)).trans hc,fun _ _ h=>h,fun _ _ h=>h⟩
 have hbox:∀ m',h.H m'≠none→e.ρ m'≠some g:=q5 g rfl
 have w2:WInv Γ { h with T:=upd h.T k none } { e with w:=e.w.setRow g cur',S:=fun c o=>e.S c o∧¬ (c=g∧n' * sz'≤o∧o<(n'+m) * sz') }:=by
  constructor
  ·exact hw.g0
  ·exact hw.os
  ·exact hw.tape
  ·exact hw.output
  ·simpa using hw.grown
  ·simpa using hw.hB
  ·intro b hb hmm
   exact(setRow_other _ _ _ _ (fun he=>by subst he; exact hB.elim (fun h=>by omega) hmm)).trans (hw.old b hb hmm)
  ·intro b o hb; simpa using hw.sdom b o hb.1
  ·intro b o h0 hmm
   have:=hw.s0B b o h0
   exact⟨hw.s0 b o h0 hmm,fun h'=>by obtain⟨rfl,_⟩:=h'; exact hB.elim (fun h=>by omega) hmm⟩
  ·exact hw.s0B
  ·exact hw.keep.trans hle.keep
  ·intro i row hi
   rcases hw.box i row hi with hz | ⟨b,ob,h1,h2,h3,h4,h5⟩
   ·exact .inl hz
   have hne:b≠g:=fun he=>by subst he; exact hbox i (by simp at hi; simp[hi]) h1
   exact .inr ⟨b,ob,h1,(setRow_other _ _ _ _ hne).trans h2,RO.mono hle h3,fun o ho=>⟨h4 o ho,fun h'=>hne h'.1⟩,h5⟩
  ·exact hw.inj
  ·intro i ty hi
   obtain⟨h0,u,r1,ror⟩:=hw1.tok i ty hi
   refine⟨h0,u,r1,?_⟩
   by_cases hfu:KX u
   ·exact .inl hfu
   obtain⟨s2,n2,x2,r2,r3,r4,r5⟩:=ror.resolve_left hfu
   have hne:∀ c,u.ownBlock=some c→c≠g:=fun c hc he=>by
    subst he
    have hik:i≠k:=fun he=>by subst he; simp at hi
    have hTi:h.T i≠none:=by simp only[upd,hik,if_false]at hi; rw[hi]; simp
    exact hik (hw.tokinj i k u _ c hTi (by rw[hk]; simp) r1 hτ hc rfl hfu hnfull)
   refine .inr ⟨s2,n2,x2,r2,⟨VO r3.1 (fun c hc=>setRow_other _ _ _ _ (hne c hc)),r3.2⟩,fun c o hc ho hs=>?_,r5⟩
   have hce:(e.w.setRow g cur').cell? ⟨c,o,none⟩=e.w.cell? ⟨c,o,none⟩:=World.cell?_of_block (setRow_other _ _ _ _ (hne c hc))
   exact⟨r4 c o hc ho (by rw[← hce]; exact hs),fun h'=>hne c hc h'.1⟩
  ·exact hw1.tokinj
  ·exact hw1.fresh
  ·exact hw1.nx0
  ·exact hw1.rt
 have hrow:=setRow_heap e.w g cur cur' el (0,0) hg
 have howns:Jel Γ (e.w.setRow g cur') el sz' (.slice (some ⟨g,0,none⟩) (n'+m) cap) (n'+m) (cur'.toList.take ((n'+m) * sz')):=by
  refine⟨⟨?_,.inr ⟨g,cap,cur',rfl,Nat.zero_le _,hrow,hroom,hmax,by rw[hsize]; exact hcs,rfl⟩⟩,fun b hb=>by simp[Value.ownBlock]at hb; subst hb; exact hB⟩
  simp[hsize,hcs,Nat.min_eq_left hroom]
  try exact Nat.mul_le_mul_right _ hroom
 obtain⟨w3,l3⟩:=w2.addTok (v:=.slice (some ⟨g,0,none⟩) (n'+m) cap) (ty:=el) (.inr ⟨_,_,_,hsz,howns,
  (fun b o hb ho hc=>by
   simp[Value.ownBlock]at hb
   subst hb
   refine⟨q4 g o rfl (Nat.le_trans (Nat.mul_le_mul_right _ (by omega)) ho) ?_,fun h'=>by omega⟩
   have hc':((e.w.setRow g cur').cell? ⟨g,o,none⟩).isSome:=hc
   rw[cell_setRow_same _ _ _ _ _ _ _ hg]at hc'
   rw[Option.isSome_iff_exists]at hc' ⊢
   obtain⟨y,hy⟩:=hc'
   have:o<cur'.size:=(Array.getElem?_eq_some_iff.1 hy).1
   exact⟨cur[o],by simp[World.cell?,hg]⟩),
  (fun b hb i hi=>by simp[Value.ownBlock]at hb; subst hb; exact hbox i hi)⟩)
  (fun _ i u b hi hu hb hfu hb'=>by
   simp[Value.ownBlock]at hb'
   subst hb'
   have hik:i≠k:=fun he=>by subst he; simp at hi
   have hTi:h.T i≠none:=by simpa [upd,hik] using hi
   exact hik (hw.tokinj i k u _ g hTi (by rw[hk]; simp) hu hτ hb rfl hfu hnfull))
 refine⟨_,?_,w3,hle.trans l3,by simp,fun i x hx hS=>?_⟩
 ·rfl
 ·have hxl:xs.length=n' * sz':=by rw[← hxs]; simp; omega
  have hi:i<(n'+m) * sz':=by
   have:=(List.getElem?_eq_some_iff.1 hx).1
   simp[hxl,hm]at this
   rw[Nat.add_mul]; exact this
  refine⟨?_,fun h'=>?_⟩
  ·show(e.w.setRow g cur').cell? _=_
   rw[cell_setRow_same _ _ _ _ _ _ _ hg,← hcur',hxs]
   simp only[List.getElem?_toArray]
   have hl:i<(xs++news).length:=(List.getElem?_eq_some_iff.1 hx).1
   rw[List.getElem?_append_left hl,hx]
  ·rcases Nat.lt_or_ge i (n' * sz') with h2 | h2
   ·exact hS i h2 h'.1
   ·exact h'.2 ⟨rfl,h2,hi⟩
theorem JdD{P:Program}{w:World}(t ty e e':TypeId)(i:TypeInfo)(ht:P.underlying t=some (.slice e))(hi:P.info? e=some i)
  (g sLen sCap:Nat) (cur:Array Value) (hg:w.heap[g]? = some (.cells cur e' (0,0)))
  (a:Addr) (m c:Nat) (news:List Value) (hl:news.length=m * i.size) (hnews:∀ j u,news[j]? = some u→w.cell? (a.add j)=some u) (h1:∀ u∈news,u.oneCell'=true)
  (hroom:sLen+m≤sCap) (hfit:sLen * i.size+news.length≤cur.size) :
  (Builtin.append_ #[t,t] ty #[.slice (some ⟨g,0,none⟩) sLen sCap,.slice (some a) m c]).run P w =
   .ok (.slice (some ⟨g,0,none⟩) (sLen+m) sCap) (w.setRow g (cur.toList.take (sLen * i.size)++news++cur.toList.drop (sLen * i.size+news.length)).toArray):=by
 have hf:=run_firstCells_some (P:=P) w i.size m a m c news hl hnews
 have hst:=run_storeCells_at P g (sLen * i.size) e' news 0 cur w hg (by simpa using hfit) h1
 simp only[Nat.add_zero]at hst
 simp[Builtin.append_,run_underlying ht,sizeOf,typeInfo,hi,Builtin.lenOf,hroom,hf,Addr.add_lit,hst]
theorem JmF{Γ:Ctx}{h:Hp}{e:Env}(hw:WInv Γ h e){t ty el:TypeId}{i:TypeInfo}{z sv:Value}{n sz len m bx ox cx:Nat}{l ys:List D}{cs op:List C}{v1 v2:List Value}
  (hu:Γ.P.underlying t=some (.slice el)) (hi:Γ.P.info? el=some i) (hz:i.zero=some z) (hzl:z.cells.size=i.size) (hrow:h.H n=some (.arr sz l::cs)) (hcs0:cs=[]) (hsz:i.size=sz) (h0:0<sz)
  (hlen:len=l.length+cs.length) (hD:cs.all C.isD=true) (h1D:(cs.map C.toD).all D.one=true) (h1:RC e (.os n sz 0 len) sv)
  (hr1:Rn e.w e.S (ys.flatMap D.cells) v1) (hd1:∀ d∈ys,d.cells.length=sz) (hr2:RCs e op v2) (hop:op=[]∨sz=1) (hm:(v1++v2).length=m * i.size)
  (hnews:∀ j v,(v1++v2)[j]? = some v→e.w.cell? ((⟨bx,ox,none⟩:Addr).add j)=some v) (hpos:0<m) (hfit:(len+m) * i.bytes≤140737488355328) (hmx:len+m≤9223372036854775807)
  (hone:∀ v∈v1++v2,v.oneCell'=true) :
  ∃ r e',(Builtin.append_ #[t,t] ty #[sv,.slice (some ⟨bx,ox,none⟩) m cx]).run Γ.P e.w=.ok r e'.w ∧
   WInv Γ { h with H:=upd (upd h.H n none) h.nx (some (.arr sz (l++cs.map C.toD++ys)::op)),nx:=h.nx+1 } e'∧e.le e'∧RC e' (.os h.nx sz 0 (len+m)) r:=by
 have hflat:∀ {q:List D},q.all D.one=true→q.flatMap D.cells=q:=fun {q} hq=>by
  induction q with
  | nil=>rfl
  | cons d q ih =>
   simp only[List.all_cons,Bool.and_eq_true]at hq
   rw[List.flatMap_cons,ih hq.2]
   cases d <;> first | rfl | (cases hq.1)
 have grown:∀ (olds:List Value) (old:Nat),Rn e.w e.S ((l++cs.map C.toD).flatMap D.cells) olds→(∀ d∈l++cs.map C.toD,d.cells.length=sz) →
   (Builtin.append_ #[t,t] ty #[sv,.slice (some ⟨bx,ox,none⟩) m cx]).run Γ.P e.w=.ok (.slice (some ⟨e.w.heap.size,0,none⟩) (len+m) (grownCap e.w (len+m) old el))
    (e.w.drew.alloc (.cells (olds.toArray++(v1++v2).toArray++Builtin.zeroCells z.cells (grownCap e.w (len+m) old el-(len+m))) el)) →
   ∃ r e',(Builtin.append_ #[t,t] ty #[sv,.slice (some ⟨bx,ox,none⟩) m cx]).run Γ.P e.w=.ok r e'.w ∧
    WInv Γ { h with H:=upd (upd h.H n none) h.nx (some (.arr sz (l++cs.map C.toD++ys)::op)),nx:=h.nx+1 } e'∧e.le e'∧RC e' (.os h.nx sz 0 (len+m)) r:=by
  intro olds old hR hd hrun
  have hge:=grownCap_ge e.w (len+m) old el
  have hmxl:=grownCap_le_maxLen e.w (len+m) old el (by unfold maxLen; omega)
  have hol:olds.length=len * sz:=by rw[hR.length,Kz hd,List.length_append,List.length_map,hlen]
  obtain⟨e',g1,g2,g3,g4,g5⟩:=(hw.dropBox n).newArrBox (el:=el) (sz:=sz) (cap:=grownCap e.w (len+m) old el) (l:=l++cs.map C.toD++ys) (op:=op) (us:=olds++v1) (ts:=v2)
   (zs:=(Builtin.zeroCells z.cells (grownCap e.w (len+m) old el-(len+m))).toList)
   (cur:=olds.toArray++(v1++v2).toArray++Builtin.zeroCells z.cells (grownCap e.w (len+m) old el-(len+m)))
   (by simp) (by rw[List.flatMap_append]; exact hR.append hr1) (fun d hd'=>by
    rcases List.mem_append.1 hd' with hd' | hd'
    ·exact hd d hd'
    ·exact hd1 d hd') hr2 hop h0 (by
    simp only[Array.size_append,List.size_toArray,size_zeroCells,hzl,hol,hm,hsz,← Nat.add_mul]
    congr 1; omega) hmxl
  refine⟨.slice (some ⟨e.w.heap.size,0,none⟩) (len+m) (grownCap e.w (len+m) old el),e',?_,g2,g3,.inr ⟨_,_,g4,g5,by simp,by simpa using hge⟩⟩
  rw[g1]; exact hrun
 have hfit':(len+m) * i.bytes≤140737488355328:=hfit
 rcases h1 with⟨hl0,o,hv⟩|⟨b,cap,k1,k2,hv,k4⟩
 ·have e1:l=[]:=List.length_eq_zero_iff.1 (by omega)
  have e2:cs=[]:=List.length_eq_zero_iff.1 (by omega)
  subst e1; subst e2; subst hl0
  refine grown [] 0 .anil (fun d hd=>by simp at hd) ?_
  rw[hv]
  simp only[Nat.zero_add]at hfit ⊢
  cases o with
  | none =>
   have:=run_append_nil (P:=Γ.P) (w:=e.w) t ty el i z hu hi hz ⟨bx,ox,none⟩ m cx (v1++v2) hm hnews hpos (by omega) (by omega)
   simpa using this
  | some a' =>
   have:=run_append_grow (P:=Γ.P) (w:=e.w) t ty el i z hu hi hz a' 0 0 [] (by simp) (by simp) ⟨bx,ox,none⟩ m cx (v1++v2) hm hnews (by omega) (by omega) (growslice_fits (by omega) (by simpa using hfit))
   simpa using this
 ·simp only[Nat.zero_mul,Nat.sub_zero,Nat.zero_add]at hv k4
  obtain⟨b',cur,ty',h4,h5,h6,h7,h8⟩:=hw.boxAt k1 _ hrow rfl
  rw[k1]at h4; simp at h4; subst h4
  obtain⟨us,ts,zs,cap',j1,j2,j3,j4,j5,j6,j7,j8,j9⟩:=h6
  rw[k2]at j9; simp at j9; subst j9
  have hul:us.length=l.length * sz:=by rw[j2.length,Kz j3]
  have htl:ts.length=cs.length:=j4.length
  have hRt:Rn e.w e.S ((cs.map C.toD).flatMap D.cells) ts:=by rw[hflat h1D]; exact RCs.toD hD j4
  have hdt:∀ d∈cs.map C.toD,d.cells.length=sz:=fun d hd=>by
   rcases j5 with j5 | j5
   ·subst j5; simp at hd
   ·have:=List.all_eq_true.1 h1D d hd
    rw[j5]
    cases d <;> first | rfl | (cases this)
  have hct:cs.length=cs.length * sz:=by
   rcases j5 with j5 | j5
   ·subst j5; simp
   ·rw[j5,Nat.mul_one]
  have hol:(us++ts).length=len * i.size:=by rw[List.length_append,hul,htl,hsz,hlen,Nat.add_mul]; omega
  have hR:Rn e.w e.S ((l++cs.map C.toD).flatMap D.cells) (us++ts):=by rw[List.flatMap_append]; exact j2.append hRt
  have hd:∀ d∈l++cs.map C.toD,d.cells.length=sz:=fun d hd'=>by
   rcases List.mem_append.1 hd' with hd' | hd'
   ·exact j3 d hd'
   ·exact hdt d hd'
  have hcells:∀ j v,(us++ts)[j]? = some v→e.w.cell? ((⟨b,0,none⟩:Addr).add j)=some v:=fun j v hj=>by
   have hlt:j<(us++ts).length:=(List.getElem?_eq_some_iff.1 hj).1
   have h9:cur.toList[j]? = some v:=by rw[j1,List.getElem?_append_left hlt]; exact hj
   have h9:e.w.cell? ⟨b,0+j,none⟩=some v:=by simp only[World.cell?,h5,Nat.zero_add]; simpa using h9
   simp only[Addr.add]
   split
   ·rename_i h0; simpa [h0] using h9
   ·exact h9
  by_cases hroom:len+m≤cap
  ·have hnl:len * i.size+(v1++v2).length≤cur.size:=by
    rw[hm,← Array.length_toList,j7,hsz,← Nat.add_mul]; exact Nat.mul_le_mul_right _ hroom
   have hrun:=JdD (P:=Γ.P) (w:=e.w) t ty el ty' i hu hi b len cap cur h5 ⟨bx,ox,none⟩ m cx (v1++v2) hm hnews hone hroom hnl
   have ht:cur.toList.take (len * i.size)=us++ts:=by rw[j1,← hol,List.take_append,List.take_of_length_le (Nat.le_refl _),Nat.sub_self,List.take_zero,List.append_nil]
   have hdr:cur.toList.drop (len * i.size+(v1++v2).length)=zs.drop (v1++v2).length:=by rw[j1,← hol,List.drop_append,List.drop_of_length_le (by omega),List.nil_append]; congr 1; omega
   rw[ht,hdr]at hrun
   have hzl':(us++ts).length+zs.length=cur.size:=by rw[← Array.length_toList,j1]; simp only[List.length_append]
   have hXl:((us++ts)++(v1++v2)++zs.drop (v1++v2).length).length=cur.size:=by
    rw[List.length_append,List.length_append,List.length_drop]; omega
   obtain⟨w2,l2⟩:=hw.setBox (vs:=(us++ts)++(v1++v2)++zs.drop (v1++v2).length) (row':=.arr sz (l++cs.map C.toD++ys)::op) hrow k1 h5
    ⟨us++ts++v1,v2,zs.drop (v1++v2).length,cap,by simp only[List.append_assoc],by rw[List.flatMap_append]; exact hR.append hr1,fun d hd'=>by
     rcases List.mem_append.1 hd' with hd' | hd'
     ·exact hd d hd'
     ·exact hd1 d hd',hr2,hop,j6,by rw[hXl,← Array.length_toList]; exact j7,j8,k2⟩ hXl rfl (fun hq=>by cases hq)
   have hnew:=setRow_heap e.w b cur ((us++ts)++(v1++v2)++zs.drop (v1++v2).length).toArray ty' (0,0) h5
   have hbn:=w2.boxAt (n:=n) (b:=b) k1 (.arr sz (l++cs.map C.toD++ys)::op) (by simp) rfl
   obtain⟨b2,c2,t2,m1,m2,m3,m4,m5⟩:=hbn
   simp only at m1
   rw[k1]at m1; simp at m1; subst m1
   have w3:=w2.dropBox n
   obtain⟨f1,f2,f3,f4⟩:=hw.fresh h.nx (Nat.le_refl _)
   have hle:=(Env.le_name (b:=b) (e:={ e with w:=e.w.setRow b ((us++ts)++(v1++v2)++zs.drop (v1++v2).length).toArray }) (n:=h.nx) f3).trans (Env.le_tok (v:=.slice none cap cap) (e:={ ({ e with w:=e.w.setRow b ((us++ts)++(v1++v2)++zs.drop (v1++v2).length).toArray }:Env) with ρ:=upd e.ρ h.nx (some b) }) (n:=h.nx) f4)
   obtain⟨us',ts',zs',cap2,n1,n2,n3,n4,n5,n6,n7,n8,n9⟩:=m3
   simp only at n9
   rw[k2]at n9; simp at n9; subst n9
   obtain⟨w4,l4⟩:=w3.addArr (b:=b) (ob:=.cells c2 t2) (row:=.arr sz (l++cs.map C.toD++ys)::op) (u:=.slice none cap cap) m2
    (RO.arr ⟨us',ts',zs',cap,n1,RD.mono hle.keep n2,n3,RCs.mono hle n4,n5,n6,n7,n8,by simp⟩) m4 m5
    (fun q hq hb=>by
     have hqn:q≠n:=fun he=>by subst he; simp at hq
     simp only[upd,hqn,if_false]at hq
     exact hqn (hw.inj q n b hq (by rw[hrow]; simp) hb k1))
    (fun k v hk hv hfull hb=>by
     cases hT:h.T k with
     | none=>exact hk hT
     | some ty2 =>
      obtain⟨_,v',q1,q2⟩:=hw.tok k ty2 hT
      simp only at hv
      rw[hv]at q1; simp at q1; subst q1
      obtain⟨s9,n9,xs,_,_,_,q5⟩:=q2.resolve_left hfull
      exact q5 b hb n (by rw[hrow]; simp) k1)
   refine⟨.slice (some ⟨b,0,none⟩) (len+m) cap,_,?_,?_,l2.trans l4,.inr ⟨b,cap,by simp,by simp,by simp,by simpa using hroom⟩⟩
   ·rw[hv]; exact hrun
   ·have e1:upd (upd (upd h.H n (some (.arr sz (l++cs.map C.toD++ys)::op))) n none) h.nx (some (.arr sz (l++cs.map C.toD++ys)::op))=upd (upd h.H n none) h.nx (some (.arr sz (l++cs.map C.toD++ys)::op)):=by
     funext q
     simp only[upd]
     split
     ·rfl
     ·split <;> rfl
    have:=w4
    simp only[e1]at this
    exact this
  ·refine grown (us++ts) cap hR hd ?_
   rw[hv]
   exact run_append_grow (P:=Γ.P) (w:=e.w) t ty el i z hu hi hz ⟨b,0,none⟩ len cap (us++ts) hol hcells ⟨bx,ox,none⟩ m cx (v1++v2) hm hnews (by omega) (by omega) (growslice_fits (by omega) hfit)
theorem WInv.reRow{Γ:Ctx}{h:Hp}{e:Env}(hw:WInv Γ h e){n:Nat}{row row':List C}(hn:h.H n=some row)(h1:∀ ob,RO e n row ob→RO e n row' ob)(h2:Jia e n row→Jia e n row'):
  WInv Γ { h with H:=upd h.H n (some row') } e:=by
 have g:∀ i,upd h.H n (some row') i≠none→h.H i≠none:=fun i hi=>by
  by_cases hin:i=n
  ·subst hin; simp[hn]
  ·simpa [upd,hin] using hi
 constructor
 ·exact hw.g0
 ·exact hw.os
 ·exact hw.tape
 ·exact hw.output
 ·exact hw.grown
 ·exact hw.hB
 ·exact hw.old
 ·exact hw.sdom
 ·exact hw.s0
 ·exact hw.s0B
 ·exact hw.keep
 ·intro m r hm
  by_cases hmn:m=n
  ·subst hmn
   simp only[upd_same,Option.some.injEq]at hm
   subst hm
   rcases hw.box m row hn with hz | ⟨b,ob,q1,q2,q3,q4⟩
   ·exact .inl (h2 hz)
   ·exact .inr ⟨b,ob,q1,q2,h1 ob q3,q4⟩
  ·simp only[upd,hmn,if_false]at hm; exact hw.box m r hm
 ·intro m m' b hm hm'
  exact hw.inj m m' b (g m hm) (g m' hm')
 ·intro k ty hk
  obtain⟨h0,v,q1,hor⟩:=hw.tok k ty hk
  refine⟨h0,v,q1,hor.imp id ?_⟩
  rintro ⟨sz,m,xs,z1,z2,z3,z4⟩
  exact⟨sz,m,xs,z1,z2,z3,fun b hb i hi=>z4 b hb i (g i hi)⟩
 ·exact hw.tokinj
 ·intro m hm
  obtain⟨g1,g2,g3,g4⟩:=hw.fresh m hm
  refine⟨?_,g2,g3,g4⟩
  have:m≠n:=fun he=>by rw[he,hn]at g1; cases g1
  simp[upd,this,g1]
 ·exact hw.nx0
 ·exact hw.rt
theorem JeE:∀ {q:List D},q.all D.one=true→q.flatMap D.cells=q
 | [],_=>rfl
 | d::q,hq=>by
  simp only[List.all_cons,Bool.and_eq_true]at hq
  rw[List.flatMap_cons,JeE hq.2]
  cases d <;> first | rfl | (cases hq.1)
theorem WInv.trunc{Γ:Ctx}{h:Hp}{e:Env}(hw:WInv Γ h e){n sz k:Nat}{l:List D}{cs:List C}(hn:h.H n=some (.arr sz l::cs))(hD:cs.all C.isD=true)(h1D:(cs.map C.toD).all D.one=true)
  (hk:k≤l.length+cs.length):WInv Γ { h with H:=upd h.H n (some [.arr sz ((l++cs.map C.toD).take k)]) } e:=by
 refine hw.reRow hn (fun ob ho=>?_) ?_
 ·obtain⟨cur,ty,rfl,us,ts,zs,cap,j1,j2,j3,j4,j5,j6,j7,j8,j9⟩:=ho.plain rfl
  have hul:us.length=l.length * sz:=by rw[j2.length,Kz j3]
  have htl:ts.length=cs.length:=j4.length
  have hct:cs.length=cs.length * sz:=by
   rcases j5 with j5 | j5
   ·subst j5; simp
   ·rw[j5,Nat.mul_one]
  have hR:Rn e.w e.S ((l++cs.map C.toD).flatMap D.cells) (us++ts):=by
   rw[List.flatMap_append,JeE h1D]; exact j2.append (RCs.toD hD j4)
  have hd:∀ d∈l++cs.map C.toD,d.cells.length=sz:=fun d hd'=>by
   rcases List.mem_append.1 hd' with hd' | hd'
   ·exact j3 d hd'
   ·rcases j5 with j5 | j5
    ·subst j5; simp at hd'
    ·have:=List.all_eq_true.1 h1D d hd'
     rw[j5]
     cases d <;> first | rfl | (cases this)
  refine RO.arr ⟨(us++ts).take (k * sz),[],(us++ts).drop (k * sz)++zs,cap,?_,?_,fun d hd'=>hd d (List.mem_of_mem_take hd'),trivial,.inl rfl,j6,j7,j8,j9⟩
  ·rw[j1,List.append_nil,← List.append_assoc,List.take_append_drop]
  ·rw[Jbu _ hd]; exact hR.take _
 ·rintro ⟨q1,⟨sz',q2,q3⟩ | q2⟩
  ·obtain⟨⟨rfl,rfl⟩,rfl⟩:(sz=sz'∧l=[])∧cs=[]:=by simpa using q2
   exact⟨q1,.inl ⟨sz,by simp,q3⟩⟩
  ·cases q2
theorem WInv.addNil{Γ:Ctx}{h:Hp}{e:Env}(hw:WInv Γ h e){row:List C}(hr:(∃ sz,row=[.arr sz []]∧0<sz)∨row=[.bar []]):
  WInv Γ { h with H:=upd h.H h.nx (some row),nx:=h.nx+1 } e:=by
 obtain⟨f1,f2,f3,f4⟩:=hw.fresh h.nx (Nat.le_refl _)
 constructor
 ·exact hw.g0
 ·exact hw.os
 ·exact hw.tape
 ·exact hw.output
 ·exact hw.grown
 ·exact hw.hB
 ·exact hw.old
 ·exact hw.sdom
 ·exact hw.s0
 ·exact hw.s0B
 ·exact hw.keep
 ·intro m r hm
  by_cases hmn:m=h.nx
  ·subst hmn
   simp only[upd_same,Option.some.injEq]at hm
   subst hm
   exact .inl ⟨f3,hr⟩
  ·simp only[upd,hmn,if_false]at hm; exact hw.box m r hm
 ·intro m m' b hm hm' hb hb'
  have e1:m≠h.nx:=fun he=>by rw[he,f3]at hb; cases hb
  have e2:m'≠h.nx:=fun he=>by rw[he,f3]at hb'; cases hb'
  exact hw.inj m m' b (by simpa [upd,e1] using hm) (by simpa [upd,e2] using hm') hb hb'
 ·intro k ty hk
  obtain⟨h0,v,q1,hor⟩:=hw.tok k ty hk
  refine⟨h0,v,q1,hor.imp id ?_⟩
  rintro ⟨sz,m,xs,z1,z2,z3,z4⟩
  refine⟨sz,m,xs,z1,z2,z3,fun b hb i hi hρ=>?_⟩
  have e1:i≠h.nx:=fun he=>by rw[he,f3]at hρ; cases hρ
  exact z4 b hb i (by simpa [upd,e1] using hi) hρ
 ·exact hw.tokinj
 ·intro m hm
  have hne:m≠h.nx:=by simp at hm; omega
  obtain⟨g1,g2,g3,g4⟩:=hw.fresh m (by simp at hm; omega)
  exact⟨by simp[upd,hne,g1],g2,g3,g4⟩
 ·exact Nat.succ_pos _
 ·exact⟨Nat.lt_succ_of_lt hw.rt.1,hw.rt.2⟩
theorem WInv.reName{Γ:Ctx}{h:Hp}{e:Env}(hw:WInv Γ h e){n b:Nat}{row row':List C}{u:Value}(hn:h.H n=some row)(hρ:e.ρ n=some b)(hτ:e.τ n=some u)
  (hro:∀ (e':Env) (ob:Obj),e.le e'→e'.w=e.w→e'.τ h.nx=some u→RO e n row ob→RO e' h.nx row' ob) :
  ∃ e',e'.w=e.w∧WInv Γ { h with H:=upd (upd h.H n none) h.nx (some row'),nx:=h.nx+1 } e'∧e.le e'∧e'.ρ h.nx=some b∧e'.τ h.nx=some u:=by
 obtain⟨ob,q1,q2,q3,q4⟩:=hw.boxAny hρ row hn
 obtain⟨f1,f2,f3,f4⟩:=hw.fresh h.nx (Nat.le_refl _)
 have hle:=(Env.le_name (b:=b) f3).trans (Env.le_tok (v:=u) (e:={ e with ρ:=upd e.ρ h.nx (some b) }) f4)
 obtain⟨w4,l4⟩:=(hw.dropBox n).addArr (b:=b) (ob:=ob) (row:=row') (u:=u) q1 (hro { e with ρ:=upd e.ρ h.nx (some b),τ:=upd e.τ h.nx (some u) } ob hle rfl (by simp) q2) q3 q4
  (fun q hq hb=>by
   have hqn:q≠n:=fun he=>by subst he; simp at hq
   simp only[upd,hqn,if_false]at hq
   exact hqn (hw.inj q n b hq (by rw[hn]; simp) hb hρ))
  (fun k v hk hv hfull hb=>by
   cases hT:h.T k with
   | none=>exact hk hT
   | some ty2 =>
    obtain⟨_,v',r1,r2⟩:=hw.tok k ty2 hT
    rw[hv]at r1; simp at r1; subst r1
    obtain⟨s9,n9,xs,_,_,_,q5⟩:=r2.resolve_left hfull
    exact q5 b hb n (by rw[hn]; simp) hρ)
 exact⟨{ e with ρ:=upd e.ρ h.nx (some b),τ:=upd e.τ h.nx (some u) },rfl,w4,l4,by simp,by simp⟩
theorem RB.reArr{e e':Env}(h:e.le e'){n m sz cap:Nat}{l:List D}{vs:List Value}(h1:e.τ n=some (.slice none cap cap))(h2:e'.τ m=some (.slice none cap cap))(k:RB e n [.arr sz l] vs):RB e' m [.arr sz l] vs:=by
 obtain⟨us,ts,zs,cap',k1,k2,k3,k4,k5,k6,k7,k8,k9⟩:=k
 rw[h1]at k9; simp at k9; subst k9
 exact⟨us,ts,zs,cap,k1,RD.mono h.keep k2,k3,RCs.mono h k4,k5,k6,k7,k8,h2⟩
theorem WInv.renArr{Γ:Ctx}{h:Hp}{e:Env}(hw:WInv Γ h e){n sz:Nat}{l:List D}{v:Value}(hn:h.H n=some [.arr sz l])(hsz:0<sz)(hv:RC e (.os n sz 0 l.length) v):
  ∃ e',e'.w=e.w∧WInv Γ { h with H:=upd (upd h.H n none) h.nx (some [.arr sz l]),nx:=h.nx+1 } e'∧e.le e'∧RC e' (.os h.nx sz 0 l.length) v:=by
 rcases hv with⟨h0,o,rfl⟩|⟨b,cap,k1,k2,hv,k4⟩
 ·have:l=[]:=List.length_eq_zero_iff.1 h0
  subst this
  exact⟨e,rfl,(hw.dropBox n).addNil (.inl ⟨sz,rfl,hsz⟩),Env.le.refl e,.inl ⟨rfl,o,rfl⟩⟩
 ·obtain⟨e',g1,g2,g3,g4,g5⟩:=hw.reName (row':=[.arr sz l]) hn k1 k2 (fun e' ob hl hw' ht ho=>by
   obtain⟨cs,ty,rfl,hrb⟩:=ho.plain rfl
   exact RO.arr (RB.reArr hl k2 ht hrb))
  exact⟨e',g1,g2,g3,.inr ⟨b,cap,g4,g5,hv,k4⟩⟩
theorem Jfr{Γ:Ctx}{h:Hp}{e:Env}(hw:WInv Γ h e){x:AV}{v:Value}(hr:RA e x v){p:Prop}{szy:Nat}{ys:List D}(hy:ysOf h x=some (p,szy,ys))(hp:p):
  (ys=[]∧(v=.slice none 0 0∨∃ a c,v=.slice (some a) 0 c))∨∃ bx ox cx v1,v=.slice (some ⟨bx,ox,none⟩) ys.length cx∧Rn e.w e.S (ys.flatMap D.cells) v1∧(∀ d∈ys,d.cells.length=szy) ∧
   v1.length=ys.length * szy∧∀ j u,v1[j]? = some u→e.w.cell? ⟨bx,ox+j,none⟩=some u:=by
 unfold ysOf at hy
 split at hy
 ·rename_i n sz off len
  split at hy
  ·rename_i sz' l hrow
   simp only[Option.some.injEq,Prod.mk.injEq]at hy
   obtain⟨rfl,rfl,rfl⟩:=hy
   obtain⟨rfl,hle⟩:=hp
   rcases hr with⟨rfl,o,rfl⟩|⟨b,cap,k1,k2,hv,k4⟩
   ·left
    refine⟨by simp,?_⟩
    cases o with
    | none=>exact .inl rfl
    | some a=>exact .inr ⟨a,0,rfl⟩
   ·right
    obtain⟨b',cur,ty,h4,h5,h6,h7,h8⟩:=hw.boxAt k1 _ hrow rfl
    rw[k1]at h4; simp at h4; subst h4
    obtain⟨us,ts,zs,cap',j1,j2,j3,j4,j5,j6,j7,j8,j9⟩:=h6
    have hts:ts=[]:=by cases ts with | nil=>rfl | cons _ _=>exact j4.elim
    subst hts
    rw[List.append_nil]at j1
    have hul:us.length=l.length * sz':=by rw[j2.length,Kz j3]
    have hlen:((l.drop off).take len).length=len:=by simp; omega
    have hsub:∀ d∈(l.drop off).take len,d.cells.length=sz':=fun d hd=>j3 d (List.mem_of_mem_drop (List.mem_of_mem_take hd))
    refine⟨b,off * sz',cap-off,(us.drop (off * sz')).take (len * sz'),by rw[hlen]; exact hv,?_,hsub,?_,fun j u hj=>?_⟩
    ·rw[Jbu _ (fun d hd=>j3 d (List.mem_of_mem_drop hd)),Jck _ j3]
     exact(j2.drop _).take _
    ·rw[hlen,List.length_take,List.length_drop,hul,← Nat.sub_mul]
     exact Nat.min_eq_left (Nat.mul_le_mul_right _ (by omega))
    ·rw[List.getElem?_take]at hj
     split at hj
     ·rw[List.getElem?_drop]at hj
      have hlt:=(List.getElem?_eq_some_iff.1 hj).1
      have:cur.toList[off * sz'+j]? = some u:=by rw[j1,List.getElem?_append_left hlt]; exact hj
      simp only[World.cell?,h5]
      simpa using this
     ·cases hj
  ·cases hy
 ·simp only[Option.some.injEq,Prod.mk.injEq]at hy
  obtain⟨rfl,rfl,rfl⟩:=hy
  obtain⟨b,rfl,hc,hS⟩:=hr
  refine .inr ⟨b,0,1,[.slice none 0 0],rfl,?_,by intro d hd; simp at hd; subst hd; rfl,rfl,fun j u hj=>?_⟩
  ·exact .acons (.sl 11 []) _ _ _ (.slnil 11 _) .anil
  ·cases j with
   | zero=>simp at hj; subst hj; exact hc
   | succ j=>simp at hj
 ·split at hy
  ·rename_i sz l hs
   simp only[Option.some.injEq,Prod.mk.injEq]at hy
   obtain⟨rfl,rfl,rfl⟩:=hy
   have h3:=hr.slD hs
   rcases h3.slInv with⟨h0,o,hv⟩|⟨vs,b,of,cap,hv,r4,r5,r6,r7⟩
   ·left
    refine⟨h0,?_⟩
    cases o with
    | none=>exact .inl hv
    | some a=>exact .inr ⟨a,0,hv⟩
   ·exact .inr ⟨b,of,cap,vs,hv,r4,r6,by rw[r4.length,Kz r6],fun j u hj=>(r5 j u hj).1⟩
  ·cases hy
theorem Jgc{Γ:Ctx}{σ:Nat→AV}{h:Hp}(o:Oper)(t:TypeId)(s x:Operand)(ho:o.op=.call { callee:=.builtin .append,args:=#[s,x],argTypes:=#[t,t] }){n sz len szy:Nat}{ys:List D}{op:List C}
  (hs:evA σ s=.c (.os n sz 0 len)) (hp:(Xz Γ.P h t n sz len szy ys op (h.H n)).pre)
  (hy0:∀ (a:Act) (e:Env),Zn o σ a e→WInv Γ h e→ys.length+op.length=0→a.eval x=.slice none 0 0∨∃ b c,a.eval x=.slice (some b) 0 c)
  (hy:∀ (a:Act) (e:Env),Zn o σ a e→WInv Γ h e→0<ys.length+op.length→szy=sz→(∀ y∈ys,y.cells.all D.one=true)→op.all C.one=true→∃ bx ox cx v1 v2,a.eval x=.slice (some ⟨bx,ox,none⟩) (ys.length+op.length) cx∧Rn e.w e.S (ys.flatMap D.cells) v1∧(∀ d∈ys,d.cells.length=sz)∧RCs e op v2 ∧
   (v1++v2).length=(ys.length+op.length) * sz∧∀ j v,(v1++v2)[j]? = some v→e.w.cell? ⟨bx,ox+j,none⟩=some v) :
  VR Γ o σ h (Xz Γ.P h t n sz len szy ys op (h.H n)).val (Xz Γ.P h t n sz len szy ys op (h.H n)).h:=by
 have hex:∀ (a:Act) (w w':World) (r:Value),(Builtin.append_ #[t,t] o.type #[a.eval s,a.eval x]).run Γ.P w=.ok r w'→(execOp a.eval o).run Γ.P w=.ok (.value r) w':=by
  intro a w w' r hr
  simp only[execOp,ho,resolve,invoke,builtin,Sem.run_bind,Sem.run_pure,Result.andThen_ok,List.map_toArray,List.map_cons,List.map_nil,hr]
 unfold Xz at *
 split at hp
 case h_2=>exact hp.elim
 rename_i sz' l cs hrow
 obtain⟨p1,p2,p3,p4,p5,rfl,p6,p7,p8,p9,p10,p12,p13,p14,p15⟩:=hp
 intro a e hop hw K Q hk
 have h1:=hop s (by simp[ho,Op.operands,Call.operands])
 rw[hs]at h1
 unfold JM at p1
 split at p1
 case h_2=>simp at p1
 rename_i el hu
 have he:Jk Γ.P t=el:=by simp[Jk,hu]
 rw[he]at p2 p3 p5 p12
 simp only[Bool.and_eq_true]at p1
 obtain⟨i,hi⟩:=Option.isSome_iff_exists.1 p1.1
 have hisz:i.size=sz:=by rw[p5]; simp[Jl,hi]
 have hib:V2 Γ.P el=i.bytes:=by simp[V2,hi]
 have hwt:=hw.trunc hrow p8 p9 p7
 have hLl:((l++cs.map C.toD).take len).length=len:=by simp; omega
 have ext:∀ r:Option (List C),(upd (upd (upd h.H n (some [C.arr sz ((l++cs.map C.toD).take len)])) n none) h.nx r)=upd (upd h.H n none) h.nx r:=fun r=>by
  funext q
  simp only[upd]
  split
  ·rfl
  ·split <;> rfl
 by_cases h0:ys.length+op.length=0
 ·have hys:ys=[]:=List.length_eq_zero_iff.1 (by omega)
  have hops:op=[]:=List.length_eq_zero_iff.1 (by omega)
  subst hys; subst hops
  have hx0:=hy0 a e hop hw h0
  obtain⟨e',g1,g2,g3,g4⟩:=hwt.renArr (n:=n) (l:=(l++cs.map C.toD).take len) (by simp) p4 (by rw[hLl]; exact h1)
  have hsz:=Kk Γ.P el e.w (by simp[Kn,p1])
  have hv:∃ base m cap,a.eval s=.slice base m cap∧m≤cap:=by
   rcases h1 with⟨_,o',h⟩|⟨b,cap,_,_,h,h2⟩
   ·exact⟨_,_,_,h,Nat.le_refl _⟩
   ·exact⟨_,_,_,h,by omega⟩
  obtain⟨base,m,cap,hv,hm⟩:=hv
  have hrun:(Builtin.append_ #[t,t] o.type #[a.eval s,a.eval x]).run Γ.P e.w=.ok (a.eval s) e.w:=by
   rw[hv]; exact JaU hu hsz hm hx0
  refine KM (hex _ _ _ _ hrun) ?_
  rw[← g1]
  simp only[ext]at g2
  rw[hLl]at g4
  simp only[List.append_nil,List.length_nil,Nat.add_zero]at hk
  exact hk _ e' g2 g3 g4
 ·obtain⟨bx,ox,cx,v1,v2,hxv,hr1,hd1,hr2,hm,hc⟩:=hy a e hop hw (by omega) p6 p14 p15
  obtain⟨z,_,hz2,hz⟩:=Vz p2 e.w
  have hz:i.zero=some z:=by simpa [hi] using hz
  have hzl:z.cells.size=i.size:=by rw[hisz,p5,← p3,← hz2]; simp
  have hone:∀ v∈v1++v2,v.oneCell'=true:=fun v hv=>by
   rcases List.mem_append.1 hv with hv | hv
   ·exact hr1.one (JhQ p14) v hv
   ·exact hr2.one p15 v hv
  obtain⟨r,e',g1,g2,g3,g4⟩:=JmF (ty:=o.type) (cx:=cx) (n:=n) (l:=(l++cs.map C.toD).take len) (cs:=[]) (len:=len) hwt hu hi hz hzl (by simp) rfl hisz p4 (by simp; omega) rfl rfl h1 hr1 hd1 hr2 p10 (by rw[hm,hisz]) (fun j v hj=>by
   have:=hc j v hj
   simp only[Addr.add]
   split
   ·rename_i h0; simpa [h0] using this
   ·exact this) (by omega) (by rw[← hib]; exact p12) p13 hone
  rw[← hxv]at g1
  simp only[List.map_nil,List.append_nil,ext]at g2
  exact KM (hex _ _ _ _ g1) (hk _ e' g2 g3 g4)
theorem Jk9{Γ:Ctx}{σ:Nat→AV}{h:Hp}(o:Oper)(t:TypeId)(s x:Operand)(ho:o.op=.call { callee:=.builtin .append,args:=#[s,x],argTypes:=#[t,t] }){sz k:Nat}{l:List D}(hs:evA σ s=.c (.sl sz l k))
  (hp:(XX Γ.P h t sz l k (ysOf h (evA σ x))).pre):VR Γ o σ h (XX Γ.P h t sz l k (ysOf h (evA σ x))).val (XX Γ.P h t sz l k (ysOf h (evA σ x))).h:=by
 have hex:∀ (a:Act) (w w':World) (r:Value),(Builtin.append_ #[t,t] o.type #[a.eval s,a.eval x]).run Γ.P w=.ok r w'→(execOp a.eval o).run Γ.P w=.ok (.value r) w':=by
  intro a w w' r hr
  simp only[execOp,ho,resolve,invoke,builtin,Sem.run_bind,Sem.run_pure,Result.andThen_ok,List.map_toArray,List.map_cons,List.map_nil,hr]
 unfold XX at *
 split at hp
 case h_2=>exact hp.elim
 rename_i px szy ys hx
 obtain⟨p1,p2,p3,p4,p5,p6,p7,p8,p9,p10,p11⟩:=hp
 intro a e hop hw K Q hk
 have h1:=hop s (by simp[ho,Op.operands,Call.operands])
 rw[hs]at h1
 obtain⟨h1,h2⟩:=h1
 have h3:=Jfr hw (hop x (by simp[ho,Op.operands,Call.operands])) hx p11
 unfold JM at p1
 split at p1
 case h_2=>simp at p1
 rename_i el hu
 have he:Jk Γ.P t=el:=by simp[Jk,hu]
 rw[he]at p2 p3 p4 p5 p6 p7 p8 hk
 simp only[Bool.and_eq_true]at p1
 have hsz:=Kk Γ.P el e.w (by simp[Kn,p1])
 have h1:=R1.resize h1 p5
 generalize hS:Jl Γ.P el=size at *
 obtain⟨i,hi⟩:=Option.isSome_iff_exists.1 p1.1
 have hisz:i.size=size:=by rw[← hS]; simp[Jl,hi]
 have hib:V2 Γ.P el=i.bytes:=by simp[V2,hi]
 obtain⟨z,_,hz2,hz⟩:=Vz p2 e.w
 have hz:i.zero=some z:=by simpa [hi] using hz
 have hzl:z.cells.size=size:=by rw[← p3,← hz2]; simp
 have hnx:h.nx≠0:=by have:=hw.nx0; omega
 rcases List.eq_nil_or_concat ys with hys | hys
 ·-- nothing is appended
  subst hys
  have hxs:a.eval x=.slice none 0 0∨∃ a' c,a.eval x=.slice (some a') 0 c:=by
   rcases h3 with⟨_,h⟩|⟨b,of,cap,vs,h,_⟩
   ·exact h
   ·exact .inr ⟨_,cap,h⟩
  have hv:∃ base n cap,a.eval s=.slice base n cap∧n≤cap:=by
   rcases h1.slInv with⟨_,o',h⟩|⟨vs,b,of,cap,h,_,_,_,hc⟩
   ·exact⟨_,_,_,h,Nat.le_refl _⟩
   ·exact⟨_,_,_,h,hc⟩
  obtain⟨base,n,cap,hv,hn⟩:=hv
  have hrun:(Builtin.append_ #[t,t] o.type #[a.eval s,a.eval x]).run Γ.P e.w=.ok (a.eval s) e.w:=by
   rw[hv]; exact JaU hu hsz hn hxs
  rcases h2 with hfull | ⟨hk0,hτ⟩
  ·obtain⟨e',g1,g2,g3⟩:=(hw.dropTok k).tokFull el hfull
   refine KM (hex _ _ _ _ hrun) ?_
   rw[← g1]
   refine hk _ e' g2 g3 ?_
   simp only[List.append_nil]
   exact⟨RD.mono g3.keep h1,.inl hfull⟩
  ·have p7:=p7.resolve_left hk0
   obtain⟨_,v,q1,qor⟩:=hw.tok k el p7
   rw[hτ]at q1
   simp at q1
   subst q1
   obtain⟨g2,g3⟩:=(hw.dropTok k).addTok (v:=a.eval s) (ty:=el) qor (fun hf j u b hj hu' hb hfu hb'=>by
    have hjk:j≠k:=fun he=>by subst he; simp at hj
    have hTj:h.T j≠none:=by simpa [upd,hjk] using hj
    exact hjk (hw.tokinj j k u _ b hTj (by rw[p7]; simp) hu' hτ hb hb' hfu hf))
   have hK:=hk (a.eval s) _ g2 g3 (by
    simp only[List.append_nil]
    exact⟨RD.mono g3.keep h1,.inr ⟨hnx,by simp⟩⟩)
   exact KM (hex _ _ _ _ hrun) hK
 ·have hne:ys≠[]:=by obtain⟨_,_,rfl⟩:=hys; simp
  have hpos:0<ys.length:=List.length_pos_iff.2 hne
  rcases h3 with⟨h,_⟩|⟨bx,ox,cx,vx,hxv,r4,r6,r7,r5⟩
  ·exact absurd h hne
  have hszy:=(p6.resolve_left hne).symm
  subst hszy
  have hvx:vx.length=ys.length * i.size:=by rw[hisz]; exact r7
  have hnews:∀ j v,vx[j]? = some v→e.w.cell? ((⟨bx,ox,none⟩:Addr).add j)=some v:=fun j v hj=>by
   have:=r5 j v hj
   simp only[Addr.add]
   split
   ·rename_i h0; simpa [h0] using this
   ·exact this
  -- a new array
  have hgrow:∀ (olds:List Value) (vs:List Value) (n old:Nat),Rn e.w e.S (l.flatMap D.cells) vs→(∀ d∈l,d.cells.length=size)→n=l.length →
    (Builtin.append_ #[t,t] o.type #[a.eval s,a.eval x]).run Γ.P e.w=.ok (.slice (some ⟨e.w.heap.size,0,none⟩) (n+ys.length) (grownCap e.w (n+ys.length) old el))
     (e.w.drew.alloc (.cells (vs.toArray++vx.toArray++Builtin.zeroCells z.cells (grownCap e.w (n+ys.length) old el-(n+ys.length))) el))→o.wp Γ.P a e.w K Q:=by
   intro olds vs n old hR hd hn hrun
   subst hn
   have hge:=grownCap_ge e.w (l.length+ys.length) old el
   have hmx:=grownCap_le_maxLen e.w (l.length+ys.length) old el (by unfold maxLen; omega)
   have hvl:vs.length=l.length * size:=by rw[hR.length,Kz hd]
   obtain⟨e',g1,g2,g3,g4⟩:=(hw.dropTok k).newArr (el:=el) (sz:=size) (cap:=grownCap e.w (l.length+ys.length) old el) (l:=l++ys) (vs:=vs++vx)
    (zs:=(Builtin.zeroCells z.cells (grownCap e.w (l.length+ys.length) old el-(l.length+ys.length))).toList)
    (cur:=vs.toArray++vx.toArray++Builtin.zeroCells z.cells (grownCap e.w (l.length+ys.length) old el-(l.length+ys.length)))
    ⟨by omega,hS.symm⟩ (by rw[List.flatMap_append]; exact hR.append r4) (fun d hd'=>by
     rw[List.mem_append]at hd'
     rcases hd' with hd' | hd'
     ·exact hd d hd'
     ·exact r6 d hd') (by simp) (by
     simp only[Array.size_append,List.size_toArray,size_zeroCells,hzl,hvl,hvx,hisz,← Nat.add_mul]
     congr 1; omega) (by simpa using hge) hmx
   refine KM (hex _ _ _ _ hrun) ?_
   rw[← g1]
   rw[List.length_append]at g4
   exact hk _ e' g2 g3 g4
  have hfit:(l.length+ys.length) * i.bytes≤140737488355328:=by rw[← hib]; exact p8
  rcases h1.slInv with⟨hl,_ | a',hv⟩|⟨vs,b,of,cap,hv,r8,r9,r10,r11⟩
  ·subst hl
   refine hgrow [] [] 0 0 .anil (by simp) rfl ?_
   simp only[List.length_nil,Nat.zero_add]at hfit ⊢
   rw[hv,hxv]
   have:=run_append_nil (P:=Γ.P) (w:=e.w) t o.type el i z hu hi hz ⟨bx,ox,none⟩ ys.length cx vx hvx hnews hpos (by simp at p9; omega) (by omega)
   simpa using this
  ·subst hl
   refine hgrow [] [] 0 0 .anil (by simp) rfl ?_
   simp only[List.length_nil,Nat.zero_add]at hfit ⊢
   rw[hv,hxv]
   have:=run_append_grow (P:=Γ.P) (w:=e.w) t o.type el i z hu hi hz a' 0 0 [] (by simp) (by simp) ⟨bx,ox,none⟩ ys.length cx vx hvx hnews (by omega) (by omega) (growslice_fits (by omega) (by simpa using hfit))
   simpa using this
  ·have hvs:vs.length=l.length * i.size:=by rw[hisz,r8.length,Kz r10]
   have holds:∀ j v,vs[j]? = some v→e.w.cell? ((⟨b,of,none⟩:Addr).add j)=some v:=fun j v hj=>by
    have:=(r9 j v hj).1
    simp only[Addr.add]
    split
    ·rename_i h0; simpa [h0] using this
    ·exact this
   by_cases hroom:l.length+ys.length≤cap
   ·-- it stays
    have hnfull:¬ KX (a.eval s):=by
     rintro ⟨a',n',h2⟩
     rw[hv]at h2
     simp at h2
     omega
    obtain⟨hk0,h2⟩:=h2.resolve_left hnfull
    have p7:=p7.resolve_left hk0
    obtain⟨_,v,q1,qor⟩:=hw.tok k el p7
    rw[h2]at q1
    simp at q1
    subst q1
    obtain⟨s2,n2,xs,q2,q3,q4,q5⟩:=qor.resolve_left hnfull
    have hs2:s2=size:=by rw[q2.2,hS]
    subst hs2
    rcases Jdl q3.1 with hh | ⟨g,cap',cur,hh,t1,t2,t3,t4,t5,t6⟩
    ·rw[hv]at hh; cases hh
    rw[hv]at hh
    simp at hh
    obtain⟨⟨rfl,rfl⟩,rfl,rfl⟩:=hh
    have hxs:vs=xs:=by
     apply List.ext_getElem?
     intro j
     rw[← t6]
     rcases Nat.lt_or_ge j vs.length with hj | hj
     ·have hj':vs[j]? = some vs[j]:=List.getElem?_eq_getElem hj
      have:=(r9 j _ hj').1
      simp[World.cell?,t2]at this
      rw[hj',List.getElem?_take,if_pos (by rw[hvs,hisz]at hj; exact hj)]
      simpa using this.symm
     ·rw[List.getElem?_eq_none hj,List.getElem?_eq_none (by simp; rw[hvs,hisz]at hj; omega)]
    subst hxs
    have hnewslen:l.length * i.size+vx.length≤cur.size:=by rw[hvx,t5,← Nat.add_mul,hisz]; exact Nat.mul_le_mul_right _ hroom
    have hrun:=run_append_room (P:=Γ.P) (w:=e.w) t o.type el i hu hi b l.length cap cur t2 ⟨bx,ox,none⟩ ys.length cx vx hvx hnews (r4.one (JhQ p10)) hroom hnewslen
    obtain⟨e',g1,g2,g3,g4,g5⟩:=hw.inPlace (k:=k) (el:=el) (g:=b) (n:=l.length) (cap:=cap) (cur:=cur) (xs:=vs) (news:=vx) (m:=ys.length) p7 (by rw[← hv]; exact h2) (by omega) ⟨by omega,hS.symm⟩ t2 (q3.2 b (by rw[hv]; rfl)) t5 t4 (by rw[hvx,hisz]) hroom t6
    rw[hisz]at hrun
    rw[← hv,← hxv]at hrun
    refine KM (hex _ _ _ _ hrun) ?_
    rw[← g1]
    refine hk _ e' g2 g3 ⟨?_,.inr ⟨hnx,g4⟩⟩
    have:=RD.sl (w:=e'.w) (S:=e'.S) _ (l++ys) (vs++vx) b 0 cap (by rw[List.flatMap_append]; exact RD.mono g3.keep (r8.append r4)) (fun i' x' hx'=>by
     rw[Nat.zero_add]
     refine g5 i' x' hx' fun j hj hSj=>?_
     have hj':j<vs.length:=by rw[hvs,hisz]; exact hj
     have:=(r9 j _ (List.getElem?_eq_getElem hj')).2
     simp at this
     exact this hSj) (fun d hd'=>by
     rw[List.mem_append]at hd'
     rcases hd' with hd' | hd'
     ·exact r10 d hd'
     ·exact r6 d hd') (by simpa using hroom)
    simpa using this
   ·refine hgrow vs vs l.length cap r8 r10 rfl ?_
    rw[hv,hxv]
    exact run_append_grow (P:=Γ.P) (w:=e.w) t o.type el i z hu hi hz ⟨b,of,none⟩ l.length cap vs hvs holds ⟨bx,ox,none⟩ ys.length cx vx hvx hnews (by omega) (by omega) (growslice_fits (by omega) hfit)
theorem Jhw{Γ:Ctx}{σ:Nat→AV}{h:Hp}(o:Oper)(t:TypeId)(s x:Operand)(ho:o.op=.call { callee:=.builtin .append,args:=#[s,x],argTypes:=#[t,t] }){sz:Nat}{l:List D}(hs:∀ a e,Zn o σ a e→RA e (.c (.fs sz l)) (a.eval s))
  (hp:(Zh Γ.P h t sz l (ysOf h (evA σ x))).pre):VR Γ o σ h (Zh Γ.P h t sz l (ysOf h (evA σ x))).val (Zh Γ.P h t sz l (ysOf h (evA σ x))).h:=by
 have hex:∀ (a:Act) (w w':World) (r:Value),(Builtin.append_ #[t,t] o.type #[a.eval s,a.eval x]).run Γ.P w=.ok r w'→(execOp a.eval o).run Γ.P w=.ok (.value r) w':=by
  intro a w w' r hr
  simp only[execOp,ho,resolve,invoke,builtin,Sem.run_bind,Sem.run_pure,Result.andThen_ok,List.map_toArray,List.map_cons,List.map_nil,hr]
 unfold Zh at *
 split at hp
 case h_2=>exact hp.elim
 rename_i px szy ys hx
 obtain⟨p1,p2,p3,p4,p5,p6,p7,p8,p9,p10,p11⟩:=hp
 intro a e hop hw K Q hk
 have h1:=hs a e hop
 obtain⟨h1,h2⟩:=h1
 have h3:=Jfr hw (hop x (by simp[ho,Op.operands,Call.operands])) hx p7
 unfold JM at p1
 split at p1
 case h_2=>simp at p1
 rename_i el hu
 have he:Jk Γ.P t=el:=by simp[Jk,hu]
 rw[he]at p2 p3 p4 p5 p6 p8 hk
 simp only[Bool.and_eq_true]at p1
 have hsz:=Kk Γ.P el e.w (by simp[Kn,p1])
 have h1:=R1.resize h1 p5
 generalize hS:Jl Γ.P el=size at *
 obtain⟨i,hi⟩:=Option.isSome_iff_exists.1 p1.1
 have hisz:i.size=size:=by rw[← hS]; simp[Jl,hi]
 have hib:V2 Γ.P el=i.bytes:=by simp[V2,hi]
 obtain⟨z,_,hz2,hz⟩:=Vz p2 e.w
 have hz:i.zero=some z:=by simpa [hi] using hz
 have hzl:z.cells.size=size:=by rw[← p3,← hz2]; simp
 rcases List.eq_nil_or_concat ys with hys | hys
 ·subst hys
  have hl:l=[]:=p11.resolve_right (by simp)
  subst hl
  have hxs:a.eval x=.slice none 0 0∨∃ a' c,a.eval x=.slice (some a') 0 c:=by
   rcases h3 with⟨_,h⟩|⟨b,of,cap,vs,h,_⟩
   ·exact h
   ·exact .inr ⟨_,cap,h⟩
  obtain⟨fa,fn,hv⟩:=h2
  have hn0:fn=0:=by
   rcases h1.slInv with⟨_,o',h⟩|⟨vs,b,of,cap,h,_⟩
   ·rw[hv]at h; simp at h; first | exact h.2.1 | exact h.2
   ·rw[hv]at h; simp at h; first | exact h.2.1 | exact h.2
  subst hn0
  have hrun:(Builtin.append_ #[t,t] o.type #[a.eval s,a.eval x]).run Γ.P e.w=.ok (a.eval s) e.w:=by
   rw[hv]; exact JaU hu hsz (Nat.le_refl _) hxs
  have hK:=hk (a.eval s) e (hw.addNil (row:=[.arr size []]) (.inl ⟨size,rfl,p4⟩)) (Env.le.refl e) (by rw[hv]; exact .inl ⟨rfl,_,rfl⟩)
  exact KM (hex _ _ _ _ hrun) hK
 ·have hne:ys≠[]:=by obtain⟨_,_,rfl⟩:=hys; simp
  have hpos:0<ys.length:=List.length_pos_iff.2 hne
  rcases h3 with⟨h,_⟩|⟨bx,ox,cx,vx,hxv,r4,r6,r7,r5⟩
  ·exact absurd h hne
  have hszy:=p6.resolve_left hne
  subst hszy
  have hvx:vx.length=ys.length * i.size:=by rw[hisz]; exact r7
  have hnews:∀ j v,vx[j]? = some v→e.w.cell? ((⟨bx,ox,none⟩:Addr).add j)=some v:=fun j v hj=>by
   have:=r5 j v hj
   simp only[Addr.add]
   split
   ·rename_i h0; simpa [h0] using this
   ·exact this
  have hgrow:∀ (vs:List Value) (old:Nat),Rn e.w e.S (l.flatMap D.cells) vs→(∀ d∈l,d.cells.length=szy) →
    (Builtin.append_ #[t,t] o.type #[a.eval s,a.eval x]).run Γ.P e.w=.ok (.slice (some ⟨e.w.heap.size,0,none⟩) (l.length+ys.length) (grownCap e.w (l.length+ys.length) old el))
     (e.w.drew.alloc (.cells (vs.toArray++vx.toArray++Builtin.zeroCells z.cells (grownCap e.w (l.length+ys.length) old el-(l.length+ys.length))) el))→o.wp Γ.P a e.w K Q:=by
   intro vs old hR hd hrun
   have hge:=grownCap_ge e.w (l.length+ys.length) old el
   have hmx:=grownCap_le_maxLen e.w (l.length+ys.length) old el (by unfold maxLen; omega)
   have hvl:vs.length=l.length * szy:=by rw[hR.length,Kz hd]
   obtain⟨e',g1,g2,g3,g4,g5⟩:=hw.newArrBox (el:=el) (sz:=szy) (cap:=grownCap e.w (l.length+ys.length) old el) (l:=l++ys) (op:=[]) (us:=vs++vx) (ts:=[])
    (zs:=(Builtin.zeroCells z.cells (grownCap e.w (l.length+ys.length) old el-(l.length+ys.length))).toList)
    (cur:=vs.toArray++vx.toArray++Builtin.zeroCells z.cells (grownCap e.w (l.length+ys.length) old el-(l.length+ys.length)))
    (by simp) (by rw[List.flatMap_append]; exact hR.append r4) (fun d hd'=>by
     rw[List.mem_append]at hd'
     rcases hd' with hd' | hd'
     ·exact hd d hd'
     ·exact r6 d hd') trivial (.inl rfl) p4 (by
     simp only[Array.size_append,List.size_toArray,size_zeroCells,hzl,hvl,hvx,hisz,← Nat.add_mul]
     congr 1; omega) hmx
   refine KM (hex _ _ _ _ hrun) ?_
   rw[← g1]
   exact hk _ e' g2 g3 (.inr ⟨_,_,g4,g5,by simp,by simpa using hge⟩)
  have hfit:(l.length+ys.length) * i.bytes≤140737488355328:=by rw[← hib]; exact p8
  rcases h1.slInv with⟨hl,_ | a',hv⟩|⟨vs,b,of,cap,hv,r8,r9,r10,r11⟩
  ·subst hl
   refine hgrow [] 0 .anil (by simp) ?_
   simp only[List.length_nil,Nat.zero_add]at hfit ⊢
   rw[hv,hxv]
   have:=run_append_nil (P:=Γ.P) (w:=e.w) t o.type el i z hu hi hz ⟨bx,ox,none⟩ ys.length cx vx hvx hnews hpos (by simp at p9; omega) (by omega)
   simpa using this
  ·subst hl
   refine hgrow [] 0 .anil (by simp) ?_
   simp only[List.length_nil,Nat.zero_add]at hfit ⊢
   rw[hv,hxv]
   have:=run_append_grow (P:=Γ.P) (w:=e.w) t o.type el i z hu hi hz a' 0 0 [] (by simp) (by simp) ⟨bx,ox,none⟩ ys.length cx vx hvx hnews (by omega) (by omega) (growslice_fits (by omega) (by simpa using hfit))
   simpa using this
  ·have hvs:vs.length=l.length * i.size:=by rw[hisz,r8.length,Kz r10]
   have holds:∀ j v,vs[j]? = some v→e.w.cell? ((⟨b,of,none⟩:Addr).add j)=some v:=fun j v hj=>by
    have:=(r9 j v hj).1
    simp only[Addr.add]
    split
    ·rename_i h0; simpa [h0] using this
    ·exact this
   have hcl:cap=l.length:=by
    obtain⟨fa,fn,hf⟩:=h2
    rw[hv]at hf
    simp at hf
    omega
   refine hgrow vs cap r8 r10 ?_
   rw[hv,hxv]
   exact run_append_grow (P:=Γ.P) (w:=e.w) t o.type el i z hu hi hz ⟨b,of,none⟩ l.length cap vs hvs holds ⟨bx,ox,none⟩ ys.length cx vx hvx hnews (by omega) (by omega) (growslice_fits (by omega) hfit)
theorem JdL{P:Program}{w:World}(t u ty e e':TypeId)(i:TypeInfo)(ht:P.underlying t=some (.slice e))(hi:P.info? e=some i)(hs1:i.size=1)(hku:P.underlying u=some .string∨∃ q,P.underlying u=some (.slice q))
  (g sLen sCap m:Nat) (cur:Array Value) (fz:Nat×Nat) (hg:w.heap[g]? = some (.cells cur e' fz)) (hfz:fz.2≤sLen) (x:Value) (news:List Value) (hl:∀ w,(Builtin.lenOf x).run P w=.ok m w) (hm:news.length=m)
  (hf:(Builtin.firstCells 1 m x).run P w=.ok news.toArray w) (h1:∀ v∈news,v.oneCell'=true) (hroom:sLen+m≤sCap) (hfit:sLen+m≤cur.size) :
  (Builtin.append_ #[t,u] ty #[.slice (some ⟨g,0,none⟩) sLen sCap,x]).run P w =
   .ok (.slice (some ⟨g,0,none⟩) (sLen+m) sCap) (w.setRow g (cur.toList.take sLen++news++cur.toList.drop (sLen+m)).toArray):=by
 have hst:=run_storeCells_atF P g sLen e' fz news 0 cur w hg (by simpa using hfz) (by simpa [hm] using hfit) h1
 simp only[Nat.add_zero,hm]at hst
 rcases hku with hD | ⟨q,hD⟩ <;> simp[Builtin.append_,run_underlying ht,run_underlying hD,sizeOf,typeInfo,hi,hs1,hl,hroom,hf,Addr.add_lit,hst]
structure NewBytes (P:Program) (w:World) (t u el:TypeId) (x:Value) (ys:List UInt8):Prop where
 ku:P.underlying u=some .string∨∃ q,P.underlying u=some (.slice q)
 len:∀ w,(Builtin.lenOf x).run P w=.ok ys.length w
 fst:(Builtin.firstCells 1 ys.length x).run P w=.ok (J9 ys).toArray w
 fst':(Builtin.firstCells 1 ys.length x).run P w.drew=.ok (J9 ys).toArray w.drew
theorem VZ(l:List UInt8):(J9 l).length=l.length:=by simp[J9]
theorem JjI(l:List UInt8):∀ v∈J9 l,v.oneCell'=true:=by
 intro v hv
 simp only[J9,List.mem_map]at hv
 obtain⟨_,_,rfl⟩:=hv
 rfl
theorem Jdo(a b:List UInt8):J9 (a++b)=J9 a++J9 b:=by simp[J9]
theorem Jbr{P:Program}{w:World}(t u ty e:TypeId)(i:TypeInfo)(z:Value)(ht:P.underlying t=some (.slice e))(hi:P.info? e=some i)(hz:i.zero=some z)(hs1:i.size=1)
  (b:Option Addr) (sLen sCap:Nat) (olds:List Value) (hlo:olds.length=sLen) (hbn:b=none→sLen=0∧sCap=0) (holds:∀ a,b=some a→∀ j v,olds[j]? = some v→w.cell? (a.add j)=some v) (x:Value) (ys:List UInt8) (hy:NewBytes P w t u e x ys)
  (hg:sCap<sLen+ys.length) (h63:((sLen+ys.length:Nat):Int)≤9223372036854775807) (hfit:Builtin.nextslicecap (sLen+ys.length) sCap * i.bytes≤281474976710656) :
  (Builtin.append_ #[t,u] ty #[.slice b sLen sCap,x]).run P w =
   .ok (.slice (some ⟨w.heap.size,0,none⟩) (sLen+ys.length) (grownCap w (sLen+ys.length) sCap e))
    (w.drew.alloc (.cells (olds.toArray++(J9 ys).toArray++Builtin.zeroCells z.cells (grownCap w (sLen+ys.length) sCap e-(sLen+ys.length))) e)):=by
 have hn:¬ (sLen+ys.length≤sCap):=by omega
 have h63':¬ (9223372036854775807<((sLen:Int)+(ys.length:Int))):=by omega
 have h48':¬ (281474976710656<Builtin.nextslicecap (sLen+ys.length) sCap * i.bytes):=by omega
 have hfo:(Builtin.firstCells 1 sLen (.slice b sLen sCap)).run P w.drew=.ok olds.toArray w.drew:=by
  cases b with
  | none =>
   obtain⟨rfl,rfl⟩:=hbn rfl
   have:olds=[]:=List.length_eq_zero_iff.1 hlo
   subst this
   simp[Builtin.firstCells]
  | some a =>
   exact run_firstCells_some (P:=P) w.drew 1 sLen a sLen sCap olds (by simpa using hlo) (by simpa using holds a rfl)
 rcases hy.ku with hD | ⟨q,hD⟩ <;>
 ·simp[Builtin.append_,run_underlying ht,run_underlying hD,sizeOf,typeInfo,zeroValue,hi,hz,hs1,hy.len,hn,h63',h48',Question.forced,hy.fst',hfo,newRow,grownCap]
  congr 2
  apply Array.ext'
  simp[List.append_assoc]
theorem WInv.newBar{Γ:Ctx}{h:Hp}{e:Env}(hw:WInv Γ h e){el:TypeId}(hel:el=UTY){cap:Nat}{l:List UInt8}{zs:List Value}{cur:Array Value}(hcur:cur.toList=J9 l++zs)(hcs:cur.size=cap)(hmax:cap≤maxLen):
  ∃ e',e'.w=e.w.drew.alloc (.cells cur el)∧WInv Γ { h with H:=upd h.H h.nx (some [.bar l]),nx:=h.nx+1 } e'∧e.le e'∧e'.ρ h.nx=some e.w.heap.size∧e'.τ h.nx=some (.slice none cap cap):=by
 have hg:Grows e.w (e.w.drew.alloc (.cells cur el)):=(Grows.drew e.w).trans (Grows.alloc _ _)
 obtain⟨w1,l1⟩:=hw.grows (S':=fun b o=>e.S b o∨b=e.w.heap.size) hg (fun b o hb=>⟨fun h=>h.resolve_right (by omega),.inl⟩) (fun b o hb=>by
  simp
  rcases hb with hb | hb
  ·have:=hw.sdom b o hb; omega
  ·omega)
 have hnew:(e.w.drew.alloc (.cells cur el)).heap[e.w.heap.size]? = some (.cells cur el (0,0)):=heap_alloc_new e.w.drew _
 obtain⟨w2,l2⟩:=w1.addArr (b:=e.w.heap.size) (ob:=.cells cur el) (row:=[.bar l]) (u:=.slice none cap cap) hnew
  ⟨rfl,cur,(0,0),zs,by rw[hel],Nat.zero_le _,hcur,by omega,by simp[hcs]⟩ (fun o _=>.inr rfl) (.inl hw.hB)
  (fun n hn hb=>by
   cases hH:h.H n with
   | none=>exact hn hH
   | some r =>
    simp only at hb
    obtain⟨ob,q2,_⟩:=hw.boxAny hb r hH
    have:=(Array.getElem?_eq_some_iff.1 q2).1
    omega)
  (fun k v hk hv hfull hb=>by
   cases hT:h.T k with
   | none=>exact absurd hT hk
   | some ty =>
    obtain⟨_,v',q1,q2⟩:=hw.tok k ty hT
    simp only at hv
    rw[hv]at q1; simp at q1; subst q1
    obtain⟨sz,n,xs,_,q2,_⟩:=q2.resolve_left hfull
    have:=(q2.1.lt _ hb).2
    omega)
 exact⟨_,rfl,w2,l1.trans l2,by simp,by simp⟩
theorem WInv.setBar{Γ:Ctx}{h:Hp}{e:Env}(hw:WInv Γ h e){n b:Nat}{l l':List UInt8}{cs:Array Value}{fz:Nat×Nat}{vs zs:List Value}
  (hn:h.H n=some [.bar l]) (hρ:e.ρ n=some b) (hb:e.w.heap[b]? = some (.cells cs UTY fz)) (hfz:fz.2≤l'.length) (hv:vs=J9 l'++zs) (hl:vs.length=cs.size) :
  WInv Γ { h with H:=upd h.H n (some [.bar l']) } { e with w:=e.w.setRow b vs.toArray }∧e.le { e with w:=e.w.setRow b vs.toArray }:=by
 obtain⟨ob,q2,q3,q4,q5⟩:=hw.boxAny hρ _ hn
 rw[hb]at q2
 simp at q2
 subst q2
 obtain⟨_,cs',fz',zs',k1,k2,k3,k4,k5⟩:=q3
 cases k1
 have hS:∀ o x,e.w.cell? ⟨b,o,none⟩=some x→e.S b o:=fun o x hx=>by
  have:cs[o]? = some x:=by simpa [World.cell?,hb] using hx
  exact q4 o (Array.getElem?_eq_some_iff.1 this).1
 have hle:e.le { e with w:=e.w.setRow b vs.toArray }:=⟨fun c o x hc hs=>by
  have hne:c≠b:=fun he=>by subst he; exact hs (hS o x hc)
  exact⟨(World.cell?_of_block (setRow_other _ _ _ _ hne)).trans hc,hs⟩,fun _ _ h=>h,fun _ _ h=>h⟩
 have g:∀ i,upd h.H n (some [C.bar l']) i≠none→h.H i≠none:=fun i hi=>by
  by_cases hin:i=n
  ·subst hin; simp[hn]
  ·simpa [upd,hin] using hi
 refine⟨?_,hle⟩
 constructor
 ·exact hw.g0
 ·exact hw.os
 ·exact hw.tape
 ·exact hw.output
 ·simpa using hw.grown
 ·simpa using hw.hB
 ·intro c hc hm
  have hne:c≠b:=fun he=>by
   subst he
   rcases q5 with h | h
   ·omega
   ·exact hm h
  exact(setRow_other _ _ _ _ hne).trans (hw.old c hc hm)
 ·intro c o hc; simpa using hw.sdom c o hc
 ·exact hw.s0
 ·exact hw.s0B
 ·exact hw.keep.trans hle.keep
 ·intro m r hmr
  by_cases hmn:m=n
  ·subst hmn
   simp only[upd_same,Option.some.injEq]at hmr
   subst hmr
   exact .inr ⟨b,_,hρ,setRow_heap _ _ _ _ _ _ hb,⟨rfl,_,fz,zs,rfl,hfz,by simpa using hv,by simp[hl]; exact k4,by simp[hl]; exact k5⟩,fun o ho=>q4 o (by simp[Jc1,hl]at ho ⊢; omega),q5⟩
  ·simp only[upd,hmn,if_false]at hmr
   rcases hw.box m r hmr with hz | ⟨b',ob,h1,h2,h3,h4,h5⟩
   ·exact .inl hz
   have hne:b'≠b:=fun he=>by
    subst he
    exact hmn (hw.inj m n b' (by simp[hmr]) (by simp[hn]) h1 hρ)
   exact .inr ⟨b',ob,h1,(setRow_other _ _ _ _ hne).trans h2,RO.mono hle h3,h4,h5⟩
 ·intro m m' c hm hm'
  exact hw.inj m m' c (g m hm) (g m' hm')
 ·intro k ty' hk
  obtain⟨h0,v,h1,hor⟩:=hw.tok k ty' hk
  refine⟨h0,v,h1,hor.imp id ?_⟩
  rintro ⟨sz,m,xs,hsz,h2,h3,h4⟩
  have hne:∀ c,v.ownBlock=some c→c≠b:=fun c hc he=>by
   subst he
   exact h4 c hc n (by simp[hn]) hρ
  refine⟨sz,m,xs,hsz,⟨VO h2.1 (fun c hc=>setRow_other _ _ _ _ (hne c hc)),h2.2⟩,fun c o hc ho hs=>?_,fun c hc i hi=>h4 c hc i (g i hi)⟩
  have hce:(e.w.setRow b vs.toArray).cell? ⟨c,o,none⟩=e.w.cell? ⟨c,o,none⟩:=World.cell?_of_block (setRow_other _ _ _ _ (hne c hc))
  exact h3 c o hc ho (by rw[← hce]; exact hs)
 ·exact hw.tokinj
 ·intro m hm
  obtain⟨g1,g2,g3,g4⟩:=hw.fresh m hm
  refine⟨?_,g2,g3,g4⟩
  have:m≠n:=fun he=>by rw[he,hn]at g1; cases g1
  simp[upd,this,g1]
 ·exact hw.nx0
 ·exact hw.rt
theorem Jmp{Γ:Ctx}{h:Hp}{e:Env}(hw:WInv Γ h e){t u ty el:TypeId}(hel:el=UTY){i:TypeInfo}{sv xv:Value}{n len:Nat}{l ys:List UInt8}
  (hu:Γ.P.underlying t=some (.slice el)) (hi:Γ.P.info? el=some i) (hz:i.zero=some (.int .u8 0)) (hs1:i.size=1) (hb1:i.bytes=1) (hrow:h.H n=some [.bar l]) (hlen:len=l.length) (h1:RC e (.os n 1 0 len) sv)
  (hy:NewBytes Γ.P e.w t u el xv ys) (hfit:l.length+ys.length≤140737488355328) :
  ∃ r e',(Builtin.append_ #[t,u] ty #[sv,xv]).run Γ.P e.w=.ok r e'.w ∧
   WInv Γ { h with H:=upd (upd h.H n none) h.nx (some [.bar (l++ys)]),nx:=h.nx+1 } e'∧e.le e'∧RC e' (.os h.nx 1 0 (l.length+ys.length)) r:=by
 have grown:∀ (old:Nat),(Builtin.append_ #[t,u] ty #[sv,xv]).run Γ.P e.w=.ok (.slice (some ⟨e.w.heap.size,0,none⟩) (l.length+ys.length) (grownCap e.w (l.length+ys.length) old el))
    (e.w.drew.alloc (.cells ((J9 l).toArray++(J9 ys).toArray++Builtin.zeroCells (Value.int .u8 0).cells (grownCap e.w (l.length+ys.length) old el-(l.length+ys.length))) el)) →
   ∃ r e',(Builtin.append_ #[t,u] ty #[sv,xv]).run Γ.P e.w=.ok r e'.w ∧
    WInv Γ { h with H:=upd (upd h.H n none) h.nx (some [.bar (l++ys)]),nx:=h.nx+1 } e'∧e.le e'∧RC e' (.os h.nx 1 0 (l.length+ys.length)) r:=by
  intro old hrun
  have hge:=grownCap_ge e.w (l.length+ys.length) old el
  have hmx:=grownCap_le_maxLen e.w (l.length+ys.length) old el (by unfold maxLen; omega)
  have hz1:(Value.int IntKind.u8 0).cells.size=1:=rfl
  obtain⟨e',g1,g2,g3,g4,g5⟩:=(hw.dropBox n).newBar (el:=el) (hel:=hel) (cap:=grownCap e.w (l.length+ys.length) old el) (l:=l++ys)
   (zs:=(Builtin.zeroCells (Value.int .u8 0).cells (grownCap e.w (l.length+ys.length) old el-(l.length+ys.length))).toList)
   (cur:=(J9 l).toArray++(J9 ys).toArray++Builtin.zeroCells (Value.int .u8 0).cells (grownCap e.w (l.length+ys.length) old el-(l.length+ys.length)))
   (by simp[Jdo]) (by simp only[Array.size_append,List.size_toArray,size_zeroCells,hz1,VZ]; omega) hmx
  refine⟨.slice (some ⟨e.w.heap.size,0,none⟩) (l.length+ys.length) (grownCap e.w (l.length+ys.length) old el),e',?_,g2,g3,.inr ⟨_,_,g4,g5,by simp,by simpa using hge⟩⟩
  rw[g1]; exact hrun
 have none0:ys=[]→∀ b m c,sv=.slice b m c→m≤c→(Builtin.append_ #[t,u] ty #[sv,xv]).run Γ.P e.w=.ok sv e.w:=by
  intro h0 b m c hv hmc
  subst h0
  have hl0:∀ w,(Builtin.lenOf xv).run Γ.P w=.ok 0 w:=hy.len
  have hf:(Builtin.firstCells 1 0 xv).run Γ.P e.w=.ok #[] e.w:=by have:=hy.fst; simpa [J9] using this
  rw[hv]
  rcases hy.ku with hD | ⟨q,hD⟩ <;> cases b <;> simp[Builtin.append_,run_underlying hu,run_underlying hD,sizeOf,typeInfo,hi,hs1,hl0,hmc,hf,storeCells]
 rcases h1 with⟨hl0,o,hv⟩|⟨b,cap,k1,k2,hv,k4⟩
 ·have e1:l=[]:=List.length_eq_zero_iff.1 (by omega)
  subst e1
  by_cases hys:ys=[]
  ·subst hys
   refine⟨sv,e,none0 rfl o 0 0 hv (Nat.le_refl _),?_,Env.le.refl e,.inl ⟨rfl,o,hv⟩⟩
   exact(hw.dropBox n).addNil (.inr rfl)
  ·refine grown 0 ?_
   have hpos:0<ys.length:=List.length_pos_iff.2 hys
   have:=Jbr (P:=Γ.P) (w:=e.w) t u ty el i (.int .u8 0) hu hi hz hs1 o 0 0 [] rfl (fun _=>⟨rfl,rfl⟩) (fun _ _ _ _ h=>by simp at h) xv ys hy (by omega) (by simp at hfit ⊢; omega) (by rw[hb1]; exact growslice_fits (by omega) (by simp at hfit ⊢; omega))
   rw[hv]
   simpa [J9] using this
 ·simp only[Nat.zero_mul,Nat.sub_zero,Nat.zero_add]at hv k4
  subst hlen
  obtain⟨ob,q2,q3,q4,q5⟩:=hw.boxAny k1 _ hrow
  obtain⟨_,cur,fz,zs,rfl,m2,m3,m4,m5⟩:=q3
  rw[k2]at m5; simp at m5; subst m5
  have ren:∀ (e1:Env) (h':Hp),h'.H n=some [.bar (l++ys)]→h'.T=h.T→h'.nx=h.nx→upd (upd h'.H n none) h.nx (some [C.bar (l++ys)])=upd (upd h.H n none) h.nx (some [C.bar (l++ys)])→WInv Γ h' e1→e1.ρ n=some b→e1.τ n=some (.slice none cur.size cur.size) →
    ∃ e2,e2.w=e1.w∧WInv Γ { h with H:=upd (upd h.H n none) h.nx (some [.bar (l++ys)]),nx:=h.nx+1 } e2∧e1.le e2∧e2.ρ h.nx=some b∧e2.τ h.nx=some (.slice none cur.size cur.size):=by
   intro e1 h' hH hT hn hext hw1 hρ1 hτ1
   obtain⟨e2,g1,g2,g3,g4,g5⟩:=hw1.reName (row':=[.bar (l++ys)]) hH hρ1 hτ1 (fun e' ob hl hw' ht ho=>by
    obtain⟨j0,cs,fz2,zs2,rfl,j2,j3,j4,j5⟩:=ho
    rw[hτ1]at j5
    simp at j5
    exact⟨j0,cs,fz2,zs2,rfl,j2,j3,j4,by rw[ht,j5]⟩)
   refine⟨e2,g1,?_,g3,by rw[← hn]; exact g4,by rw[← hn]; exact g5⟩
   obtain⟨H',T',nx'⟩:=h'
   simp only at hT hn hext g2
   subst hT; subst hn
   rw[hext]at g2
   exact g2
  have hne2:n≠h.nx:=fun he=>by
   have:=(hw.fresh h.nx (Nat.le_refl _)).1
   rw[← he,hrow]at this; cases this
  by_cases hroom:l.length+ys.length≤cur.size
  ·have hrun:=JdL (P:=Γ.P) (w:=e.w) t u ty el UTY i hu hi hs1 hy.ku b l.length cur.size ys.length cur fz q2 m2 xv (J9 ys) hy.len (VZ ys) hy.fst (JjI ys) hroom hroom
   have ht:cur.toList.take l.length=J9 l:=by rw[m3]; exact List.take_left' (VZ l)
   have hdr:cur.toList.drop (l.length+ys.length)=zs.drop ys.length:=by
    rw[m3,← VZ l,List.drop_append,List.drop_of_length_le (by omega),List.nil_append]; congr 1; omega
   rw[ht,hdr]at hrun
   have hcl:cur.size=l.length+zs.length:=by rw[← Array.length_toList,m3,List.length_append,VZ]
   obtain⟨w2,l2⟩:=hw.setBar (l':=l++ys) (vs:=J9 l++J9 ys++zs.drop ys.length) (zs:=zs.drop ys.length) hrow k1 q2 (by simp; omega) (by rw[Jdo]) (by
    simp only[List.length_append,VZ,List.length_drop]; omega)
   obtain⟨e2,g1,g2,g3,g4,g5⟩:=ren { e with w:=e.w.setRow b (J9 l++J9 ys++zs.drop ys.length).toArray } { h with H:=upd h.H n (some [.bar (l++ys)]) } (by simp) rfl rfl (by
    funext q
    simp only[upd]
    split
    ·rfl
    ·split <;> rfl) w2 k1 k2
   refine⟨.slice (some ⟨b,0,none⟩) (l.length+ys.length) cur.size,e2,?_,g2,l2.trans g3,.inr ⟨b,cur.size,g4,g5,by simp,by simpa using hroom⟩⟩
   rw[hv,g1]; exact hrun
  ·refine grown cur.size ?_
   have holds:∀ a,(some (⟨b,0,none⟩:Addr))=some a→∀ j v,(J9 l)[j]? = some v→e.w.cell? (a.add j)=some v:=by
    rintro a ha j v hj
    cases ha
    have hlt:j<(J9 l).length:=(List.getElem?_eq_some_iff.1 hj).1
    have h9:cur.toList[j]? = some v:=by rw[m3,List.getElem?_append_left hlt]; exact hj
    have h9:e.w.cell? ⟨b,0+j,none⟩=some v:=by simp only[World.cell?,q2,Nat.zero_add]; simpa using h9
    simp only[Addr.add]
    split
    ·rename_i h0; simpa [h0] using h9
    ·exact h9
   have:=Jbr (P:=Γ.P) (w:=e.w) t u ty el i (.int .u8 0) hu hi hz hs1 (some ⟨b,0,none⟩) l.length cur.size (J9 l) (VZ l) (fun h=>by cases h) holds xv ys hy (by omega) (by omega) (by rw[hb1]; exact growslice_fits (by omega) (by simpa using hfit))
   rw[hv]
   exact this
theorem Jlh{P:Program}{t:TypeId}{i:TypeInfo}(h:tZ1 P t=true)(hi:P.info? t=some i):i.zero=some (.int .u8 0):=by
 unfold tZ1 at h
 simp only[hi,Option.bind_some]at h
 split at h
 ·rename_i n hz
  have:n=0:=by simpa using h
  rw[hz,this]
 ·cases h
theorem Jg0{Γ:Ctx}{σ:Nat→AV}{h:Hp}(o:Oper)(t u:TypeId)(s x:Operand)(ho:o.op=.call { callee:=.builtin .append,args:=#[s,x],argTypes:=#[t,u] }){n sz len:Nat}{ys:List UInt8}
  (hs:evA σ s=.c (.os n sz 0 len)) (hp:(VE Γ.P h t n sz len ys (h.H n)).pre)
  (hy:∀ (a:Act) (e:Env),Zn o σ a e→WInv Γ h e→NewBytes Γ.P e.w t u (Jk Γ.P t) (a.eval x) ys) :
  VR Γ o σ h (VE Γ.P h t n sz len ys (h.H n)).val (VE Γ.P h t n sz len ys (h.H n)).h:=by
 have hex:∀ (a:Act) (w w':World) (r:Value),(Builtin.append_ #[t,u] o.type #[a.eval s,a.eval x]).run Γ.P w=.ok r w'→(execOp a.eval o).run Γ.P w=.ok (.value r) w':=by
  intro a w w' r hr
  simp only[execOp,ho,resolve,invoke,builtin,Sem.run_bind,Sem.run_pure,Result.andThen_ok,List.map_toArray,List.map_cons,List.map_nil,hr]
 unfold VE at *
 split at hp
 case h_2=>exact hp.elim
 rename_i l hrow
 obtain⟨p1,p0,p2,p3,p4,p5,rfl,p6,p7⟩:=hp
 intro a e hop hw K Q hk
 have h1:=hop s (by simp[ho,Op.operands,Call.operands])
 rw[hs]at h1
 unfold JM at p1
 split at p1
 case h_2=>simp at p1
 rename_i el hu
 have he:Jk Γ.P t=el:=by simp[Jk,hu]
 rw[he]at p0 p2 p3 p4 p5
 simp only[Bool.and_eq_true]at p1
 obtain⟨i,hi⟩:=Option.isSome_iff_exists.1 p1.1
 have hyb:=hy a e hop hw
 rw[he]at hyb
 obtain⟨r,e',g1,g2,g3,g4⟩:=Jmp (ty:=o.type) hw p0 hu hi (Jlh p5 hi) (by simpa [Jl,hi] using p4) (by simpa [V2,hi] using p3) hrow p6 h1 hyb p7
 exact KM (hex _ _ _ _ g1) (hk _ e' g2 g3 g4)
theorem JfR{P:Program}{w:World}{t el:TypeId}(hu:P.underlying t=some (.slice el)){bx ox cx:Nat}{c:UInt8}(hc:w.cell? ⟨bx,ox,none⟩=some (.int .u8 (c.toNat:Int))):
  NewBytes P w t t el (.slice (some ⟨bx,ox,none⟩) 1 cx) [c]:=by
 have hcell:∀ j v,[Value.int .u8 (c.toNat:Int)][j]? = some v→w.cell? ((⟨bx,ox,none⟩:Addr).add j)=some v:=fun j v hj=>by
  cases j with
  | zero=>simp at hj; subst hj; simpa [Addr.add] using hc
  | succ j=>simp at hj
 refine⟨.inr ⟨el,hu⟩,fun w=>rfl,?_,?_⟩
 ·exact run_firstCells_some (P:=P) w 1 1 ⟨bx,ox,none⟩ 1 cx [Value.int .u8 (c.toNat:Int)] rfl hcell
 ·exact run_firstCells_some (P:=P) w.drew 1 1 ⟨bx,ox,none⟩ 1 cx [Value.int .u8 (c.toNat:Int)] rfl (by simpa using hcell)
theorem Jfa{P:Program}{w:World}{t u el:TypeId}(hu:P.underlying u=some .string)(s:ByteArray):NewBytes P w t u el (.string s) (bl s):=by
 have e1:s.size=(bl s).length:=Jax s
 refine⟨.inl hu,fun w=>by simp[Builtin.lenOf,e1],?_,?_⟩
 ·have:=Lib.run_firstCells_string (P:=P) w 1 s
  rw[e1]at this
  exact this
 ·have:=Lib.run_firstCells_string (P:=P) w.drew 1 s
  rw[e1]at this
  exact this
theorem Jj8{e:Env}{a:AV}{v:Value}{p:Prop}{c:UInt8}(hr:RA e a v)(hb:Jdi a=some (p,c))(hp:p):∃ bx ox cx,v=.slice (some ⟨bx,ox,none⟩) 1 cx∧e.w.cell? ⟨bx,ox,none⟩=some (.int .u8 (c.toNat:Int)):=by
 unfold Jdi at hb
 split at hb
 ·rename_i n k
  simp only[Option.some.injEq,Prod.mk.injEq]at hb
  obtain⟨rfl,rfl⟩:=hb
  rcases hr.1.slInv with⟨h,_⟩|⟨vs,b,of,cap,hv,r4,r5,r6,r7⟩
  ·cases h
  ·refine⟨b,of,cap,by simpa using hv,?_⟩
   simp only[List.flatMap_cons,D.cells,List.flatMap_nil,List.append_nil]at r4
   cases r4 with
   | acons _ x _ vs h1 h2 =>
    have:=R1.vInv h1
    subst this
    have:=(r5 0 _ rfl).1
    rw[← hp]
    simpa using this
 ·cases hb
theorem Jkj{Γ:Ctx}{σ:Nat→AV}{h:Hp}(o:Oper)(t:TypeId)(s x:Operand)(ho:o.op=.call { callee:=.builtin .append,args:=#[s,x],argTypes:=#[t,t] })(hp:(Zs Γ.P σ h t s x).pre):
  VR Γ o σ h (Zs Γ.P σ h t s x).val (Zs Γ.P σ h t s x).h:=by
 unfold Zs at *
 split at hp
 ·rename_i sz l k hs
  split at hp
  ·rename_i hty
   simp only[if_pos hty]
   refine Jhw o t s x ho (fun a e hop=>?_) hp
   have h1:=hop s (by simp[ho,Op.operands,Call.operands])
   rw[hs]at h1
   obtain⟨h1,h2⟩:=h1
   exact⟨h1,h2.resolve_right fun h=>h.1 hty.2⟩
  ·rename_i hty
   simp only[if_neg hty]
   exact Jk9 o t s x ho hs hp
 ·rename_i sz l hs
  split at hp
  ·rename_i hty
   simp only[hty,if_true]
   exact Jhw o t s x ho (fun a e hop=>by have h1:=hop s (by simp[ho,Op.operands,Call.operands]); rw[hs]at h1; exact h1) hp
  ·exact hp.elim
 ·rename_i n sz len hs
  split at hp
  case isFalse=>exact hp.elim
  rename_i hty
  simp only[hty,if_true]
  unfold JbM at *
  split at hp
  ·rename_i hxe
   refine Jgc o t s x ho hs hp (fun a e hop hw h0=>by simp at h0) (fun a e hop hw h0 hz _ _=>?_)
   have h3:=hop x (by simp[ho,Op.operands,Call.operands])
   rw[hxe]at h3
   obtain⟨b,hv,hc,hS⟩:=h3
   subst hz
   refine⟨b,0,1,[],[.slice none 0 0],by simpa using hv,.anil,by simp,⟨⟨.slnil 0 _,.inl ⟨_,_,rfl⟩⟩,trivial⟩,by simp,fun j v hj=>?_⟩
   cases j with
   | zero=>simp at hj; subst hj; exact hc
   | succ j=>simp at hj
  ·rename_i hnl
   split at hp
   ·rename_i hbar
    rw[if_pos hbar]
    split at hp
    ·rename_i p c hb
     obtain⟨hpp,hp⟩:=hp
     simp only[hb]
     refine Jg0 o t t s x ho hs hp fun a e hop hw=>?_
     obtain⟨bx,ox,cx,hv,hc⟩:=Jj8 (hop x (by simp[ho,Op.operands,Call.operands])) hb hpp
     rw[hv]
     have hsl:JM Γ.P t=true:=by
      unfold VE at hp
      split at hp
      ·exact hp.1
      ·exact hp.elim
     unfold JM at hsl
     split at hsl
     ·rename_i el hu
      exact JfR (by rw[hu]; simp[Jk,hu]) hc
     ·cases hsl
    ·exact hp.elim
   ·rename_i hbar
    rw[if_neg hbar]
    split at hp
    ·rename_i p szy ys hys
     obtain⟨hpp,hp⟩:=hp
     simp only[hys]
     refine Jgc o t s x ho hs hp (fun a e hop hw h0=>?_) (fun a e hop hw h0 hz _ _=>?_)
     ·rcases Jfr hw (hop x (by simp[ho,Op.operands,Call.operands])) hys hpp with⟨_,h⟩|⟨bx,ox,cx,v1,hv,_⟩
      ·exact h
      ·have:ys.length=0:=by simpa using h0
       rw[this]at hv
       exact .inr ⟨_,_,hv⟩
     ·rcases Jfr hw (hop x (by simp[ho,Op.operands,Call.operands])) hys hpp with⟨h,_⟩|⟨bx,ox,cx,v1,hv,r4,r6,r7,r5⟩
      ·subst h; simp at h0
      ·subst hz
       exact⟨bx,ox,cx,v1,[],by simpa using hv,r4,r6,trivial,by simpa using r7,fun j v hj=>r5 j v (by simpa using hj)⟩
    ·exact hp.elim
 ·exact hp.elim
def Zr(P:Program)(σ:Nat→AV)(h:Hp)(t u:TypeId)(s x:Operand):AR :=
 match evA σ s,evA σ x with
 | .c (.os n sz 0 len),.c (.d (.v (.string b)))=>if ZA t=true then(let r:=VE P h t n sz len (bl b) (h.H n); ⟨P.underlying u=some .string∧r.pre,r.val,r.h⟩) else .bad h
 | _,_=>.bad h
theorem Jj5{Γ:Ctx}{σ:Nat→AV}{h:Hp}(o:Oper)(t u:TypeId)(s x:Operand)(ho:o.op=.call { callee:=.builtin .append,args:=#[s,x],argTypes:=#[t,u] })(hp:(Zr Γ.P σ h t u s x).pre):
  VR Γ o σ h (Zr Γ.P σ h t u s x).val (Zr Γ.P σ h t u s x).h:=by
 unfold Zr at *
 split at hp
 ·rename_i n sz len b hs hx
  split at hp
  case isFalse=>exact hp.elim
  rename_i hty
  rw[if_pos hty]
  obtain⟨p1,p2⟩:=hp
  refine Jg0 o t u s x ho hs p2 fun a e hop hw=>?_
  have h2:=hop x (by simp[ho,Op.operands,Call.operands])
  rw[hx]at h2
  rw[R1.vInv h2]
  exact Jfa p1 b
 ·exact hp.elim
end Go.Proofs.YtfkhlbhjhdpkoaaDoor
namespace Go.Proofs.YtfkhlbhjhdpkoaaDoor
open Go.RowKit
def Ja4(P:Program)(σ:Nat→AV)(h:Hp)(t:TypeId)(x:Operand)(f:Nat):AR :=
 match evA σ x with
 | .ag l=>let r:=Ka P h (tFld P t f) l (tOff P t f); ⟨KR P t f=true∧r.pre,r.val,r.h⟩
 | .c (.d (.ag l))=>let r:=Ka P h (tFld P t f) (l.map C.d) (tOff P t f); ⟨KR P t f=true∧r.pre,r.val,r.h⟩
 | _=>.bad h
theorem Jh7{P:Program}{h:Hp}{t:TypeId}{row:List C}{off:Nat}{e:Env}{vs:List Value}
  (hp:(Ka P h t row off).pre) (hr:RCs e row vs):∃ v,(part t ⟨vs⟩ off).run P e.w=.ok v e.w∧RA e (Ka P h t row off).val v:=by
 obtain⟨h1,h2,h3⟩:=hp
 have hi:=Jdx P t e.w h1
 have hs:=Kk P t e.w h1
 simp only[Ka]
 cases hag:tAgg P t with
 | true =>
  rw[hag]at hi
  refine⟨.agg ((vs.drop off).take (Jl P t)).toArray,?_,_,rfl,(hr.drop off).take _⟩
  unfold part
  simp only[Sem.run_bind,hi,Result.andThen_ok,if_true,hs,Sem.run_pure]
  congr 2
  apply Array.ext'
  simp[List.take_drop]
 | false =>
  rw[hag]at hi
  have hof:=h3 hag
  obtain⟨v,hv,hv'⟩:=hr.get off (row.getD off default) (by simp[List.getD_eq_getElem?_getD,List.getElem?_eq_getElem hof])
  refine⟨v,?_,hv'⟩
  have hv2:(⟨vs⟩:Array Value)[off]? = some v:=by simpa using hv
  unfold part
  simp only[Sem.run_bind,hi,Result.andThen_ok,Bool.false_eq_true,if_false,hv2,Sem.run_pure]
theorem Jf5{P:Program}{t:TypeId}{f:Nat}(h:KR P t f=true)(vs:List Value)(w:World):
  (Instr.field t (.agg ⟨vs⟩) f).run P w=(part (tFld P t f) ⟨vs⟩ (tOff P t f)).run P w:=by
 unfold KR at h
 split at h
 ·rename_i fs hu
  simp only[Bool.and_eq_true,Option.isSome_iff_exists,bne_iff_ne,ne_eq]at h
  obtain⟨⟨⟨⟨fd,hf⟩,hz⟩,⟨d,hd⟩⟩,⟨i,hi⟩⟩:=h
  simp only[Instr.field,Sem.run_bind,run_underlying hu,Result.andThen_ok,hf,asAgg,Sem.run_pure,tFld,tOff,hu,Option.map_some,Option.getD_some]
 ·simp at h
theorem Jlg{Γ:Ctx}{σ:Nat→AV}{h:Hp}(o:Oper)(t:TypeId)(x:Operand)(f:Nat)(ho:o.op=.field t x f)(hp:(Ja4 Γ.P σ h t x f).pre):
  VR Γ o σ h (Ja4 Γ.P σ h t x f).val (Ja4 Γ.P σ h t x f).h:=by
 unfold Ja4 at *
 split at hp
 ·rename_i l hx
  obtain⟨h1,h2⟩:=hp
  refine VR.of_run fun a e hop hw=>?_
  have h3:=hop x (by simp[ho,Op.operands])
  rw[hx]at h3
  obtain⟨vs,h4,h5⟩:=h3
  obtain⟨v,h6,h7⟩:=Jh7 h2 h5
  refine⟨v,?_,h7⟩
  simp only[execOp,ho,h4]
  rw[Sem.run_bind,Jf5 h1,h6]; rfl
 ·rename_i l hx
  obtain⟨h1,h2⟩:=hp
  refine VR.of_run fun a e hop hw=>?_
  have h3:=hop x (by simp[ho,Op.operands])
  rw[hx]at h3
  obtain⟨vs,h4,h5⟩:=R1.agInv h3
  obtain⟨v,h6,h7⟩:=Jh7 h2 (RCs.ofD h5)
  refine⟨v,?_,h7⟩
  simp only[execOp,ho,h4]
  rw[Sem.run_bind,Jf5 h1,h6]; rfl
 ·exact hp.elim
def Jai(P:Program)(σ:Nat→AV)(t:TypeId):List C→List (Nat×Operand)→Prop×List C
 | row,[]=>(True,row)
 | row,(i,x)::l =>
  let r:=Jai P σ t (row.take (tOff P t i)++sizeRow (tCS P (tFld P t i)) (evA σ x).row++row.drop (tOff P t i+(evA σ x).row.length)) l
  ((evA σ x).rowOk=true∧KR P t i=true∧(evA σ x).row.length=Jl P (tFld P t i)∧tOff P t i+(evA σ x).row.length≤row.length∧r.1,r.2)
def JdB(P:Program)(t:TypeId):Bool:=match P.underlying t with | some (.struct fs)=>fs.toList.all fun f=>(P.info? f.type).isSome && (P.underlying f.type).isSome | some (.array _ e)=>(P.info? e).isSome && (P.underlying e).isSome | _=>false
def JbV(P:Program)(σ:Nat→AV)(h:Hp)(t:TypeId)(parts:List (Nat×Operand)):AR :=
 ⟨JdB P t=true∧tZok P t=true∧(Jai P σ t (sizeRow (tCS P t) ((tZ P t).map ofV)) parts).1,.ag (Jai P σ t (sizeRow (tCS P t) ((tZ P t).map ofV)) parts).2,h⟩
theorem Jms(place:Nat→Option (Nat×Nat))(i off size:Nat)(v:Value)(rest:List (Nat×Value))(cells:Array Value)(hp:place i=some (off,size))(hs:v.cells.size=size)(hl:off+size≤cells.size):
  ∃ cells',cells'.toList=cells.toList.take off++v.cells.toList++cells.toList.drop (off+v.cells.toList.length)∧Instr.fill place cells ((i,v)::rest)=Instr.fill place cells' rest:=by
 have hset:=JdQ v.cells.toList 0 off cells (by simp[hs]; omega)
 simp only[Nat.add_zero]at hset
 have hfold:(v.cells.zipIdx.foldl (fun cs (x:Value×Nat)=>cs.setIfInBounds (off+x.2) x.1) cells)=((v.cells.toList.zipIdx 0).foldl (fun(cs:Array Value) p=>cs.setIfInBounds (off+p.2) p.1) cells):=by
  rw[← Array.foldl_toList,Array.toList_zipIdx]
 rw[← hfold]at hset
 refine⟨v.cells.zipIdx.foldl (fun cs (x:Value×Nat)=>cs.setIfInBounds (off+x.2) x.1) cells,hset,?_⟩
 conv=>lhs; unfold Instr.fill
 simp only[hp,hs,ne_eq,not_true_eq_false,decide_false,Bool.false_or,decide_eq_true_eq]
 rw[if_neg (by omega)]
theorem JgC{P:Program}{σ:Nat→AV}{t:TypeId}{e:Env}{a:Act}{fs:Array Field}(hu:P.underlying t=some (.struct fs)){places:Array (Nat×Nat)}
  (hpl:∀ i:Nat,places[i]? = (fs[i]?).map fun(f:Field)=>(f.offset,Jl P f.type)):∀ (parts:List (Nat×Operand)) (row:List C) (cells:Array Value),
  (∀ p∈parts,RA e (evA σ p.2) (a.eval p.2))→(Jai P σ t row parts).1→RCs e row cells.toList →
  ∃ out,Instr.fill (places[·]?) cells (parts.map fun p=>(p.1,a.eval p.2))=some out∧RCs e (Jai P σ t row parts).2 out.toList
 | [],row,cells,_,_,h=>⟨cells,rfl,h⟩
 | (i,x)::l,row,cells,hop,hp,hr=>by
  obtain⟨p1,p2,p3,p4,p5⟩:=hp
  have hx:=(hop (i,x) (by simp)).row p1
  have hl1:=hx.length
  have hl2:=hr.length
  have hplace:places[i]? = some (tOff P t i,Jl P (tFld P t i)):=by
   unfold KR at p2
   rw[hu]at p2
   simp only[Bool.and_eq_true,Option.isSome_iff_exists]at p2
   obtain⟨⟨⟨⟨fd,hf⟩,_⟩,_⟩,_⟩:=p2
   rw[hpl]
   simp[tOff,tFld,hu,hf]
  have hsz:(a.eval x).cells.size=Jl P (tFld P t i):=by rw[← p3,← hl1]; simp
  obtain⟨cells',h1,h2⟩:=Jms (places[·]?) i (tOff P t i) (Jl P (tFld P t i)) (a.eval x) (l.map fun p=>(p.1,a.eval p.2)) cells hplace hsz (by simp at hl1 hl2; omega)
  have hr':RCs e (row.take (tOff P t i)++sizeRow (tCS P (tFld P t i)) (evA σ x).row++row.drop (tOff P t i+(evA σ x).row.length)) cells'.toList:=by
   rw[h1,hl1]
   exact((hr.take _).append (hx.sizeRow _)).append (hr.drop _)
  obtain⟨out,h3,h4⟩:=JgC hu hpl l _ cells' (fun p hp=>hop p (by simp[hp])) p5 hr'
  exact⟨out,by rw[List.map_cons,h2]; exact h3,h4⟩
theorem Jew{P:Program}(w:World):∀ (l:List Field),(l.all fun f=>(P.info? f.type).isSome && (P.underlying f.type).isSome)=true →
  (l.mapM fun f=>do pure (f.offset,← sizeOf f.type):Sem (List (Nat×Nat))).run P w=.ok (l.map fun f=>(f.offset,Jl P f.type)) w
 | [],_=>by simp
 | f::l,h=>by
  simp only[List.all_cons,Bool.and_eq_true]at h
  have hs:=Kk P f.type w (by simp[Kn,h.1])
  have ih:=Jew (P:=P) w l h.2
  rw[List.mapM_cons]
  simp only[Sem.run_bind,hs,Result.andThen_ok,Sem.run_pure,ih,List.map_cons]
theorem JlD{Γ:Ctx}{σ:Nat→AV}{h:Hp}(o:Oper)(t:TypeId)(parts:Array (Nat×Operand))(ho:o.op=.build t parts)(hp:(JbV Γ.P σ h t parts.toList).pre):
  VR Γ o σ h (JbV Γ.P σ h t parts.toList).val (JbV Γ.P σ h t parts.toList).h:=by
 obtain⟨p1,p2,p3⟩:=hp
 refine VR.of_run fun a e hop hw=>?_
 unfold JdB at p1
 split at p1
 ·rename_i fs hu
  obtain⟨z,hz,hz2,_⟩:=Vz p2 e.w
  have hm:=Jew e.w fs.toList p1
  obtain⟨out,h1,h2⟩:=JgC (a:=a) (e:=e) hu (places:=(fs.toList.map fun f=>(f.offset,Jl Γ.P f.type)).toArray) (fun i=>by simp) parts.toList (sizeRow (tCS Γ.P t) ((tZ Γ.P t).map ofV)) z.cells
   (fun p hp=>hop p.2 (by simp only[ho,Op.operands,List.mem_toArray,List.mem_map]; exact⟨p,hp,rfl⟩)) p3 (by rw[hz2]; exact RCs.sizeRow _ (RCs.ofV _ _))
  refine⟨.agg out,?_,out.toList,rfl,h2⟩
  have hmap:(parts.map fun(x:Nat×Operand)=>(x.1,a.eval x.2)).toList=parts.toList.map fun p=>(p.1,a.eval p.2):=by simp
  have hma:(fs.mapM fun f=>do pure (f.offset,← sizeOf f.type):Sem (Array (Nat×Nat))).run Γ.P e.w=.ok (fs.toList.map fun f=>(f.offset,Jl Γ.P f.type)).toArray e.w:=by
   rw[Array.mapM_eq_mapM_toList,Sem.run_map,hm]; rfl
  simp only[execOp,ho,Instr.build,Sem.run_bind,hz,Result.andThen_ok,run_underlying hu,hma,hmap,h1,Sem.run_pure]
 ·rename_i m el hu
  obtain⟨z,hz,hz2,_⟩:=Vz p2 e.w
  simp only[Bool.and_eq_true]at p1
  have hs:=Kk Γ.P el e.w (by simp[Kn,p1])
  have hp0:parts.toList=[]:=by
   cases hp:parts.toList with
   | nil=>rfl
   | cons q l =>
    rw[hp]at p3
    have:=p3.2.1
    simp[KR,hu]at this
  rw[hp0]
  refine⟨.agg z.cells,?_,z.cells.toList,rfl,by rw[hz2]; exact RCs.sizeRow _ (RCs.ofV _ _)⟩
  have hmap:(parts.map fun(x:Nat×Operand)=>(x.1,a.eval x.2)).toList=[]:=by simp[hp0]
  simp only[execOp,ho,Instr.build,Sem.run_bind,hz,Result.andThen_ok,run_underlying hu,hs,hmap,Sem.run_pure,Instr.fill]
 ·simp at p1
def u8s(l:List UInt8):List D:=l.map fun b=>.v (.int .u8 b.toNat)
def unU8:D→UInt8
 | .v (.int _ n)=>UInt8.ofNat n.toNat
 | _=>0
theorem JlZ(l:List UInt8):(u8s l).map unU8=l:=by
 induction l with
 | nil=>rfl
 | cons b l ih=>simp only[u8s,List.map_cons,unU8]at ih ⊢; rw[ih]; simp
def X6(P:Program)(σ:Nat→AV)(h:Hp)(src dst:TypeId)(x:Operand):AR :=
 match evA σ x with
 | .c (.d (.v (.int _ n)))=>match P.underlying src,P.underlying dst with
  | some (.int _),some (.int k)=>⟨True,.c (.d (.v (.int k (k.wrap n)))),h⟩
  | _,_=>.bad h
 | .c (.d (.v (.string s)))=>⟨P.underlying src=some .string∧JM P dst=true∧P.underlying (Jk P dst)=some (.int .u8),.c (.d (.sl 1 (u8s (bl s)))),h⟩
 | y=>match slD y with
  | some (_,l)=>⟨JM P src=true∧P.underlying (Jk P src)=some (.int .u8)∧P.underlying dst=some .string∧∃ bs,l=u8s bs,.c (.d (.v (str (l.map unU8)))),h⟩
  | none=>.bad h
theorem Rn.u8{w:World}{S:Nat→Nat→Prop}:∀ {bs:List UInt8} {vs:List Value},Rn w S ((u8s bs).flatMap D.cells) vs→vs=(bs.map fun b=>(b.toNat:Int)).map (Value.int .u8)
 | [],_,h=>by cases h; rfl
 | b::bs,_,h=>by
  simp only[u8s,List.map_cons,List.flatMap_cons,D.cells,List.singleton_append]at h
  cases h with
  | acons _ x _ vs h1 h2 =>
   have:=R1.vInv h1
   subst this
   rw[Rn.u8 (bs:=bs) h2]; rfl
theorem JjF{Γ:Ctx}{σ:Nat→AV}{h:Hp}(o:Oper)(src dst:TypeId)(x:Operand)(ho:o.op=.convert src dst x)(hp:(X6 Γ.P σ h src dst x).pre):
  VR Γ o σ h (X6 Γ.P σ h src dst x).val (X6 Γ.P σ h src dst x).h:=by
 unfold X6 at *
 split at hp
 ·rename_i k n hx
  split at hp
  ·rename_i k1 k2 h1 h2
   refine VR.of_run fun a e hop hw=>⟨_,?_,.v _⟩
   have h3:=hop x (by simp[ho,Op.operands])
   rw[hx]at h3
   have h3:=R1.vInv h3
   simp[execOp,ho,h3,convert,run_underlying h1,run_underlying h2,Conv.intToInt]
  ·exact hp.elim
 ·rename_i s hx
  obtain⟨p1,p2,p3⟩:=hp
  intro a e hop hw K Q hk
  have h3:=hop x (by simp[ho,Op.operands])
  rw[hx]at h3
  have h3:=R1.vInv h3
  unfold JM at p2
  split at p2
  case h_2=>simp at p2
  rename_i el hu
  have he:Jk Γ.P dst=el:=by simp[Jk,hu]
  rw[he]at p3
  have hrun:=Lib.run_convert_string_bytes (P:=Γ.P) e.w src dst el s p1 hu p3
  have hg:Grows e.w (Lib.bytesWorld e.w el s):=⟨by unfold Lib.bytesWorld World.freeze; split <;> rfl,by unfold Lib.bytesWorld World.freeze; split <;> rfl,by unfold Lib.bytesWorld World.freeze; split <;> rfl,by rw[Lib.bytesWorld_size]; omega,fun k hk=>Lib.bytesWorld_at_old e.w el s k hk⟩
  obtain⟨w1,l1⟩:=hw.quiet hg
  have hlen:(u8s (bl s)).length=s.size:=by simp[u8s,Jax]
  have hfl:(u8s (bl s)).flatMap D.cells=u8s (bl s):=by
   generalize bl s=q
   induction q with
   | nil=>rfl
   | cons b q ih=>simp only[u8s,List.map_cons,List.flatMap_cons,D.cells]at ih ⊢; rw[ih]; rfl
  have hrn:∀ q:List UInt8,Rn (Lib.bytesWorld e.w el s) e.S (u8s q) (J9 q):=fun q=>by
   induction q with
   | nil=>exact .anil
   | cons b q ih=>exact .acons _ _ _ _ (.v _) ih
  have hR:R1 (Lib.bytesWorld e.w el s) e.S (.sl 1 (u8s (bl s))) (.slice (some ⟨e.w.heap.size,0,none⟩) s.size (grownCap e.w s.size 0 el)):=by
   have:=RD.sl (w:=Lib.bytesWorld e.w el s) (S:=e.S) 1 (u8s (bl s)) (J9 (bl s)) e.w.heap.size 0 (grownCap e.w s.size 0 el) (by rw[hfl]; exact hrn _) (fun i x hx=>by
    refine⟨?_,fun hS=>by have:=hw.sdom _ _ hS; omega⟩
    have hi:i<(bl s).length:=by have:=(List.getElem?_eq_some_iff.1 hx).1; simpa [J9] using this
    rw[Nat.zero_add,Lib.bytesWorld_cell e.w el s i (by rw[Jax]; exact hi),← hx]
    show _=(J9 (bl s))[i]?
    simp only[J9,List.getElem?_map,List.getElem?_eq_getElem hi,Option.map_some]
    rw[show s.data.toList=bl s from rfl,List.getD_eq_getElem?_getD,List.getElem?_eq_getElem hi]
    rfl) (fun d hd=>by
    simp only[u8s,List.mem_map]at hd
    obtain⟨_,_,rfl⟩:=hd
    rfl) (by rw[hlen]; exact grownCap_ge _ _ _ _)
   rwa [hlen]at this
  refine KM (v:=.slice (some ⟨e.w.heap.size,0,none⟩) s.size (grownCap e.w s.size 0 el)) (w':=Lib.bytesWorld e.w el s) ?_ (hk _ _ w1 l1 hR)
  simp only[execOp,ho,h3]
  rw[Sem.run_bind,hrun]
  rfl
 ·rename_i y hy
  split at hp
  ·rename_i sz l hs
   obtain⟨p1,p2,p3,bs,rfl⟩:=hp
   refine VR.of_run fun a e hop hw=>⟨_,?_,.v _⟩
   have h3:=(hop x (by simp[ho,Op.operands])).slD hs
   unfold JM at p1
   split at p1
   ·rename_i el hu
    have he:Jk Γ.P src=el:=by simp[Jk,hu]
    rw[he]at p2
    rw[JlZ]
    rcases h3.slInv with⟨hl,o',hv⟩|⟨vs,b,of,cap,hv,r4,r5,r6,r7⟩
    ·have hbs:bs=[]:=by cases bs with | nil=>rfl | cons _ _=>simp[u8s]at hl
     subst hbs
     have:(convert src dst (.slice o' 0 0)).run Γ.P e.w=.ok (.string ByteArray.empty) e.w:=by
      cases o' with
      | none=>exact run_convert_bytes_nil e.w src el hu p2 0 0 dst p3
      | some a'=>rw[run_convert_bytes_string e.w src dst el _ 0 0 hu p2 p3]; simp[Conv.bytesToString,loadCells,loadCellsFrom]
     simp only[execOp,ho,hv]
     rw[Sem.run_bind,this]
     rfl
    ·have hvs:=Rn.u8 r4
     have hlen:(bs.map fun b=>(b.toNat:Int)).length=(u8s bs).length:=by simp[u8s]
     have:=run_convert_bytes_arg e.w src el hu p2 b of (u8s bs).length cap (bs.map fun b=>(b.toNat:Int)) hlen (fun i hi=>by
      have hi':i<bs.length:=by simpa [u8s] using hi
      have:=(r5 i (.int .u8 (bs[i].toNat:Int)) (by rw[hvs]; simp[hi'])).1
      rw[this]
      simp[hi']) dst p3
     simp only[execOp,ho,hv]
     rw[Sem.run_bind,this]
     have hs:strOfNums (bs.map fun b=>(b.toNat:Int))=⟨bs.toArray⟩:=by
      simp[strOfNums,Function.comp_def]
     rw[hs]
     rfl
   ·simp at p1
  ·exact hp.elim
def Vv(σ:Nat→AV):List Operand→Option (List Nat)
 | []=>some []
 | x::l=>match evA σ x,Vv σ l with
  | .c (.pt n 0),some ns=>some (n::ns)
  | _,_=>none
def Vl(σ:Nat→AV)(h:Hp)(fn:Fn)(first captured:List Operand):AR :=
 match fn,first,captured with
 | .func f,[],[]=>⟨True,.c (.d (.v (.func (.func f) #[] #[]))),h⟩
 | .func f,[],xs=>match Vv σ xs with
  | some ns=>⟨True,.c (.clo f ns),h⟩
  | none=>.bad h
 | _,_,_=>.bad h
theorem Jcq{σ:Nat→AV}{a:Act}{e:Env}:∀ {l:List Operand} {ns:List Nat},(∀ x∈l,RA e (evA σ x) (a.eval x))→Vv σ l=some ns→RP e ns (l.map a.eval)
 | [],ns,_,h=>by simp[Vv]at h; subst h; trivial
 | x::l,ns,ho,h=>by
  simp only[Vv]at h
  split at h
  ·rename_i n ns' hx hns
   simp at h; subst h
   have h1:=ho x (by simp)
   rw[hx]at h1
   exact⟨h1,Jcq (fun y hy=>ho y (by simp[hy])) hns⟩
  ·cases h
theorem Jir{Γ:Ctx}{σ:Nat→AV}{h:Hp}(o:Oper)(fn:Fn)(first captured:Array Operand)(ho:o.op=.makeFunc fn first captured)(hp:(Vl σ h fn first.toList captured.toList).pre):
  VR Γ o σ h (Vl σ h fn first.toList captured.toList).val (Vl σ h fn first.toList captured.toList).h:=by
 have hmap:∀ (a:Act) (xs:Array Operand),xs.map a.eval=(xs.toList.map a.eval).toArray:=fun a xs=>by apply Array.ext'; simp
 unfold Vl at *
 split at hp
 ·rename_i f h1 h2
  refine VR.of_run fun a e hop hw=>⟨.func (.func f) #[] #[],?_,.v _⟩
  simp[execOp,ho,Instr.makeFunc,hmap,h1,h2]
 ·rename_i f h1 h2
  split at hp
  ·rename_i ns hns
   refine VR.of_run fun a e hop hw=>⟨.func (.func f) #[] (captured.toList.map a.eval).toArray,?_,_,Jcq (fun x hx=>hop x (by simp only[ho,Op.operands,Array.mem_append]; right; simpa using hx)) hns,rfl⟩
   simp[execOp,ho,Instr.makeFunc,hmap,h1]
  ·exact hp.elim
 ·exact hp.elim
def Jas(P:Program)(t:TypeId):Bool:=match P.underlying t with | some (.interface _)=>false | some _=>true | none=>false
def V4(P:Program)(σ:Nat→AV)(h:Hp)(t:TypeId)(x:Operand):AR :=
 match evA σ x with
 | .c (.d (.v v))=>⟨Jas P t=true,.c (.d (.v (.iface t v))),h⟩
 | a=>match agV a with
  | some vs=>⟨Jas P t=true,.c (.d (.v (.iface t (.agg ⟨vs⟩)))),h⟩
  | none=>.bad h
theorem Jds{P:Program}{t:TypeId}(h:Jas P t=true)(v:Value)(w:World):(Instr.makeInterface t v).run P w=.ok (.iface t v) w:=by
 unfold Jas at h
 split at h
 ·cases h
 ·rename_i D hD hu
  unfold Instr.makeInterface
  simp only[Sem.run_bind,run_underlying hu,Result.andThen_ok]
  cases D <;> first | rfl | exact absurd rfl (hD _)
 ·cases h
theorem Jib{Γ:Ctx}{σ:Nat→AV}{h:Hp}(o:Oper)(t:TypeId)(x:Operand)(ho:o.op=.makeInterface t x)(hp:(V4 Γ.P σ h t x).pre):
  VR Γ o σ h (V4 Γ.P σ h t x).val (V4 Γ.P σ h t x).h:=by
 unfold V4 at *
 split at hp
 ·rename_i v hx
  refine VR.of_run fun a e hop hw=>⟨_,?_,.v _⟩
  have h1:=hop x (by simp[ho,Op.operands])
  rw[hx]at h1
  have h1:=R1.vInv h1
  simp only[execOp,ho,h1]
  rw[Sem.run_bind,Jds hp]; rfl
 ·split at hp
  ·rename_i vs hv
   refine VR.of_run fun a e hop hw=>⟨_,?_,.v _⟩
   have h1:=Jcs hv (hop x (by simp[ho,Op.operands]))
   simp only[execOp,ho,h1]
   rw[Sem.run_bind,Jds hp]; rfl
  ·exact hp.elim
def Vg(P:Program)(σ:Nat→AV)(h:Hp)(x:Operand)(t:TypeId):Bool→AR
 | false=>.bad h
 | true=>match evA σ x with
  | .c (.d (.v (.iface u (.agg ⟨vs⟩))))=>⟨Jas P t=true∧u=t,.tu [(true,vs.map fun v=>.d (.v v)),(false,[.d (.v (.bool true))])],h⟩
  | _=>.bad h
theorem RCs.vs{e:Env}:∀ (vs:List Value),RCs e (vs.map fun v=>C.d (.v v)) vs
 | []=>trivial
 | v::l=>⟨.v v,RCs.vs l⟩
theorem Jhc{Γ:Ctx}{σ:Nat→AV}{h:Hp}(o:Oper)(x:Operand)(xt t:TypeId)(comma:Bool)(ho:o.op=.typeAssert x xt t comma)(hp:(Vg Γ.P σ h x t comma).pre):
  VR Γ o σ h (Vg Γ.P σ h x t comma).val (Vg Γ.P σ h x t comma).h:=by
 cases comma with
 | false=>exact hp.elim
 | true =>
 unfold Vg at *
 dsimp only at hp ⊢
 split at hp
 ·rename_i u vs hx
  obtain⟨hp,rfl⟩:=hp
  refine VR.of_run fun a e hop hw=>⟨.tuple ⟨[.agg ⟨vs⟩,.bool true]⟩,?_,_,rfl,⟨vs,rfl,RCs.vs vs⟩,⟨_,rfl,.v _⟩,trivial⟩
  have h1:=hop x (by simp[ho,Op.operands])
  rw[hx]at h1
  have h1:=R1.vInv h1
  simp only[execOp,ho,h1]
  unfold Jas at hp
  split at hp
  ·cases hp
  ·rename_i D hD hu
   unfold Instr.typeAssert
   simp only[Sem.run_bind,run_underlying hu,Result.andThen_ok]
   cases D <;> first | (exact absurd rfl (hD _)) | (simp; rfl) | rfl
  ·cases hp
 ·exact hp.elim
end Go.Proofs.YtfkhlbhjhdpkoaaDoor
namespace Go.Proofs.YtfkhlbhjhdpkoaaDoor
open Go.RowKit
structure PF where
 pre:List D→Prop
 val:List D→D
def J7(P:Program)(f:Nat)(pf:PF):Prop :=
 ∀ (w:World) (S:Nat→Nat→Prop) (args:List D) (vs:List Value),GW w S→Rn w S args vs→(∀ b o,S b o→b<w.heap.size)→pf.pre args →
  Calls P f ⟨vs⟩ w (fun en w'=>∃ v,en=.returned v∧Grows w w'∧R1 w' S (pf.val args) v)
structure MF where
 pre:List D→List D→Prop
 val:List D→List D→D
 upd:List D→List D→List (Nat×D)
structure GrowsBut (b:Nat) (w w':World):Prop where
 os:w'.os=w.os
 tape:w'.tape=w.tape
 output:w'.output=w.output
 size:w.heap.size≤w'.heap.size
 block:∀ k,k<w.heap.size→k≠b→w'.heap[k]? = w.heap[k]?
def Jbf(w:World)(S:Nat→Nat→Prop):List (Nat×D)→List Value→List Value→Prop
 | [],cs,cs'=>cs'=cs
 | (o,d)::us,cs,cs'=>∃ x,R1 w S d x∧o<cs.length∧Jbf w S us (cs.set o x) cs'
def Jh9(row:List C)(us:List (Nat×D)):List C:=us.foldl (fun r p=>r.set p.1 (.d p.2)) row
def JhZ(P:Program)(f:Nat)(mf:MF):Prop :=
 ∀ (w:World) (S:Nat→Nat→Prop) (b:Nat) (cs:Array Value) (ty:TypeId) (row args:List D) (vs:List Value),
  w.heap[b]? = some (.cells cs ty (0,0))→(∀ o,o<cs.size→S b o)→Rn w S row cs.toList→Rn w S args vs→(∀ b o,S b o→b<w.heap.size)→mf.pre row args →
  Calls P f ⟨.pointer (some ⟨b,0,none⟩)::vs⟩ w (fun en w'=>∃ v cs',en=.returned v∧GrowsBut b w w'∧w'.heap[b]? = some (.cells cs' ty (0,0)) ∧
   Jbf w' S (mf.upd row args) cs.toList cs'.toList∧R1 w' S (mf.val row args) v)
def Jg(P:Program)(f:Nat):Prop:=∀ (args:Array Value) (w:World),(callFunc f args).run P w=.ok (.enter f args) w
theorem RCs.set{e:Env}:∀ {l:List C} {vs:List Value} (o:Nat) {c:C} {x:Value},RCs e l vs→RC e c x→RCs e (l.set o c) (vs.set o x)
 | [],[],_,_,_,_,_=>trivial
 | _::_,_::_,0,_,_,⟨_,h2⟩,k=>⟨k,h2⟩
 | _::_,_::_,o+1,_,_,⟨h1,h2⟩,k=>⟨h1,RCs.set o h2 k⟩
theorem RCs.upd{e:Env}:∀ (us:List (Nat×D)) {row:List C} {cs cs':List Value},RCs e row cs→Jbf e.w e.S us cs cs'→RCs e (Jh9 row us) cs'
 | [],_,_,_,h,k=>by cases k; exact h
 | (o,d)::us,row,cs,cs',h,⟨x,k1,_,k3⟩=>RCs.upd us (h.set o (c:=.d d) k1) k3
theorem Jbf.length{w:World}{S:Nat→Nat→Prop}:∀ {us:List (Nat×D)} {cs cs':List Value},Jbf w S us cs cs'→cs'.length=cs.length
 | [],_,_,h=>by cases h; rfl
 | (_,_)::_,_,_,⟨_,_,_,h⟩=>by simpa using Jbf.length h
theorem WInv.upBox_le{Γ:Ctx}{h:Hp}{e:Env}(hw:WInv Γ h e){n:Nat}{row:List C}{b:Nat}{w':World}
  (hn:h.H n=some row) (hρ:e.ρ n=some b) (hg:GrowsBut b e.w w'):e.le { e with w:=w' }:=by
 refine⟨fun c o x hc hs=>?_,fun _ _ h=>h,fun _ _ h=>h⟩
 have hne:c≠b:=fun he=>by
  subst he
  exact hs (hw.ownS hρ (by rw[hn]; simp) hc)
 exact⟨(World.cell?_of_block (hg.block c (Jfd hc) hne)).trans hc,hs⟩
theorem WInv.upBox{Γ:Ctx}{h:Hp}{e:Env}(hw:WInv Γ h e){n:Nat}{row row':List C}{b:Nat}{cs cs':Array Value}{ty:TypeId}{w':World}
  (hn:h.H n=some row) (hρ:e.ρ n=some b) (hb:e.w.heap[b]? = some (.cells cs ty (0,0))) (hg:GrowsBut b e.w w') (hb':w'.heap[b]? = some (.cells cs' ty (0,0)))
  (hl:cs'.size=cs.size) (hr:RCs { e with w:=w' } row' cs'.toList) (hnb:rowP row=true) :
  WInv Γ { h with H:=upd h.H n (some row') } { e with w:=w' }:=by
 have hle:=hw.upBox_le hn hρ hg
 have hτ:e.τ n=some (tyV ty):=by
  obtain⟨ob,o1,o2,_⟩:=hw.boxAny hρ row hn
  rw[hb]at o1; cases o1
  exact o2.ty hnb
 obtain⟨b0,cs0,ty0,q1,q2,q3,q4,q5⟩:=hw.boxAt hρ row hn (V1 hnb)
 rw[hρ]at q1; simp at q1; subst q1
 rw[hb]at q2; simp at q2; obtain⟨rfl,rfl⟩:=q2
 have hblt:b<e.w.heap.size:=(Array.getElem?_eq_some_iff.1 hb).1
 constructor
 ·exact hw.g0
 ·exact hg.os.trans hw.os
 ·exact hg.tape.trans hw.tape
 ·exact hg.output.trans hw.output
 ·exact Nat.le_trans hw.grown hg.size
 ·exact Nat.le_trans hw.hB hg.size
 ·intro c hc hm
  have hne:c≠b:=fun he=>by
   subst he
   rcases q5 with h | h
   ·omega
   ·exact hm h
  exact(hg.block c (Nat.lt_of_lt_of_le hc hw.hB) hne).trans (hw.old c hc hm)
 ·intro c o hc; exact Nat.lt_of_lt_of_le (hw.sdom c o hc) hg.size
 ·exact hw.s0
 ·exact hw.s0B
 ·exact hw.keep.trans hle.keep
 ·intro m r hmr
  by_cases hmn:m=n
  ·subst hmn
   simp only[upd_same,Option.some.injEq]at hmr
   subst hmr
   exact .inr ⟨b,_,hρ,hb',RO.of (.of hr) (fun _=>hτ),fun o ho=>q4 o (by simp only[Jc1]at ho; omega),q5⟩
  ·simp only[YtfkhlbhjhdpkoaaDoor.upd,hmn,if_false]at hmr
   rcases hw.box m r hmr with hz | ⟨b',ob,h1,h2,h3,h4,h5⟩
   ·exact .inl hz
   have hne:b'≠b:=fun he=>by
    subst he
    exact hmn (hw.inj m n b' (by simp[hmr]) (by simp[hn]) h1 hρ)
   exact .inr ⟨b',ob,h1,(hg.block b' (Array.getElem?_eq_some_iff.1 h2).1 hne).trans h2,RO.mono hle h3,h4,h5⟩
 ·intro m m' c hm hm'
  have g:∀ i,YtfkhlbhjhdpkoaaDoor.upd h.H n (some row') i≠none→h.H i≠none:=fun i hi=>by
   by_cases hin:i=n
   ·subst hin; simp[hn]
   ·simpa [YtfkhlbhjhdpkoaaDoor.upd,hin] using hi
  exact hw.inj m m' c (g m hm) (g m' hm')
 ·intro k ty' hk
  obtain⟨h0,v,h1,hor⟩:=hw.tok k ty' hk
  refine⟨h0,v,h1,hor.imp id ?_⟩
  rintro ⟨sz,m,xs,hsz,h2,h3,h4⟩
  have hne:∀ c,v.ownBlock=some c→c≠b:=fun c hc he=>by
   subst he
   exact h4 c hc n (by simp[hn]) hρ
  have hblk:∀ c,v.ownBlock=some c→w'.heap[c]? = e.w.heap[c]? := fun c hc=>hg.block c (h2.1.lt c hc).2 (hne c hc)
  refine⟨sz,m,xs,hsz,⟨VO h2.1 hblk,h2.2⟩,fun c o hc ho hs=>?_,fun c hc i hi=>?_⟩
  ·have hce:w'.cell? ⟨c,o,none⟩=e.w.cell? ⟨c,o,none⟩:=World.cell?_of_block (hblk c hc)
   exact h3 c o hc ho (by rw[← hce]; exact hs)
  ·have:h.H i≠none:=by
    by_cases hin:i=n
    ·subst hin; simp[hn]
    ·simpa [YtfkhlbhjhdpkoaaDoor.upd,hin] using hi
   exact h4 c hc i this
 ·exact hw.tokinj
 ·intro m hm
  obtain⟨g1,g2,g3,g4⟩:=hw.fresh m hm
  refine⟨?_,g2,g3,g4⟩
  have:m≠n:=fun he=>by rw[he,hn]at g1; cases g1
  simp[YtfkhlbhjhdpkoaaDoor.upd,this,g1]
 ·exact hw.nx0
 ·exact hw.rt
def JaT(Φ:Nat→Option PF)(Ψ:Nat→Option MF)(σ:Nat→AV)(h:Hp)(f:Operand)(args:List Operand):AR :=
 match evA σ f with
 | .c (.d (.v (.func (.func n) fs cs))) =>
  match Φ n with
  | some pf=>⟨fs.size=0∧cs.size=0∧(args.all fun x=>(evA σ x).isD)=true∧pf.pre (args.map fun x=>(evA σ x).toD),.c (.d (pf.val (args.map fun x=>(evA σ x).toD))),h⟩
  | none=>match Ψ n,args with
   | some mf,x::rest=>match evA σ x with
    | .c (.pt m 0)=>match h.H m with
     | some row=>⟨fs.size=0∧cs.size=0∧row.all C.isD=true∧(rest.all fun x=>(evA σ x).isD)=true∧mf.pre (row.map C.toD) (rest.map fun x=>(evA σ x).toD),
       .c (.d (mf.val (row.map C.toD) (rest.map fun x=>(evA σ x).toD))),{ h with H:=upd h.H m (some (Jh9 row (mf.upd (row.map C.toD) (rest.map fun x=>(evA σ x).toD)))) }⟩
     | none=>.bad h
    | _=>.bad h
   | _,_=>.bad h
 | _=>.bad h
theorem JeS{σ:Nat→AV}{a:Act}{e:Env}:∀ {l:List Operand},(∀ x∈l,RA e (evA σ x) (a.eval x))→(l.all fun x=>(evA σ x).isD)=true →
  Rn e.w e.S (l.map fun x=>(evA σ x).toD) (l.map a.eval)
 | [],_,_=>.anil
 | x::l,h,k=>by
  simp only[List.all_cons,Bool.and_eq_true]at k
  exact .acons _ _ _ _ ((h x (by simp)).toD k.1) (JeS (fun y hy=>h y (by simp[hy])) k.2)
theorem JmB{Γ:Ctx}{Φ:Nat→Option PF}{Ψ:Nat→Option MF}{σ:Nat→AV}{h:Hp}(hΦ:∀ f pf,Φ f=some pf→Jg Γ.P f∧J7 Γ.P f pf)(hΨ:∀ f mf,Ψ f=some mf→Jg Γ.P f∧JhZ Γ.P f mf)
  (o:Oper) (f:Operand) (args:Array Operand) (ts:Array TypeId) (ho:o.op=.call { callee:=.value f,args:=args,argTypes:=ts }) (hp:(JaT Φ Ψ σ h f args.toList).pre) :
  VR Γ o σ h (JaT Φ Ψ σ h f args.toList).val (JaT Φ Ψ σ h f args.toList).h:=by
 have hmf:f∈o.op.operands:=by simp[ho,Op.operands,Call.operands]
 have hma:∀ x∈args.toList,x∈o.op.operands:=fun x hx=>by simp[ho,Op.operands,Call.operands]; right; simpa using hx
 unfold JaT at *
 split at hp
 case h_2=>exact hp.elim
 rename_i n fs cs hf
 have hex:∀ (a:Act) (w:World),fs.size=0→cs.size=0→a.eval f=.func (.func n) fs cs→Jg Γ.P n→(execOp a.eval o).run Γ.P w=.ok (.enter n (args.map a.eval)) w:=by
  intro a w h1 h2 h3 h4
  have h1:fs=#[]:=Array.eq_empty_of_size_eq_zero h1
  have h2:cs=#[]:=Array.eq_empty_of_size_eq_zero h2
  subst h1; subst h2
  simp only[execOp,ho,resolve,h3,Deferred.ofValue,Sem.run_bind,Sem.run_pure,Result.andThen_ok,invoke,Array.empty_append,Array.append_empty]
  exact h4 _ _
 split at hp
 ·rename_i pf hpf
  obtain⟨p1,p2,p3,p4⟩:=hp
  obtain⟨c1,c2⟩:=hΦ n pf hpf
  intro a e hop hw K Q hk
  have h1:=hop f hmf
  rw[hf]at h1
  have h1:=R1.vInv h1
  have hargs:=JeS (fun x hx=>hop x (hma x hx)) p3
  have hc:=c2 e.w e.S _ _ hw.gw hargs hw.sdom p4
  unfold Oper.wp
  rw[hex a e.w p1 p2 h1 c1,Oper.upon_enter]
  have harr:(⟨args.toList.map a.eval⟩:Array Value)=args.map a.eval:=by apply Array.ext'; simp
  rw[harr]at hc
  refine hc.mono ?_
  rintro en w' ⟨v,rfl,hg,hr⟩
  obtain⟨w1,l1⟩:=hw.quiet hg
  exact hk v _ w1 l1 hr
 ·rename_i hnone
  split at hp
  case h_2=>exact hp.elim
  rename_i mf x rest hmfn hargsl
  split at hp
  case h_2=>exact hp.elim
  rename_i m hx
  split at hp
  case h_2=>exact hp.elim
  rename_i row hrow
  obtain⟨p1,p2,p3,p4,p5⟩:=hp
  obtain⟨c1,c2⟩:=hΨ n mf hmfn
  intro a e hop hw K Q hk
  have h1:=hop f hmf
  rw[hf]at h1
  have h1:=R1.vInv h1
  have h2:=hop x (hma x (by rw[hargsl]; simp))
  rw[hx]at h2
  obtain⟨b,h3,h4⟩:=h2
  obtain⟨b',cs0,ty,q1,q2,q3,q4,q5⟩:=hw.boxAt h3 row hrow (V1 (Jcm p3))
  have q3:=q3.plain (Jcm p3)
  rw[h3]at q1; simp at q1; subst q1
  have hargs:=JeS (l:=rest) (fun y hy=>hop y (hma y (by rw[hargsl]; simp[hy]))) p4
  have hc:=c2 e.w e.S b cs0 ty (row.map C.toD) _ _ q2 q4 (RCs.toD p3 q3) hargs hw.sdom p5
  unfold Oper.wp
  rw[hex a e.w p1 p2 h1 c1,Oper.upon_enter]
  have harr:(⟨Value.pointer (some ⟨b,0,none⟩)::rest.map a.eval⟩:Array Value)=args.map a.eval:=by
   apply Array.ext'
   simp[hargsl,h4]
  rw[harr]at hc
  refine hc.mono ?_
  rintro en w' ⟨v,cs',rfl,hg,hb',hu,hr⟩
  have hle:=hw.upBox_le hrow h3 hg
  have hwi:=hw.upBox (row':=Jh9 row (mf.upd (row.map C.toD) (rest.map fun x=>(evA σ x).toD))) hrow h3 q2 hg hb' (by have:=hu.length; simpa using this) (RCs.upd _ (RCs.mono hle q3) hu) (Jcm p3)
  exact hk v _ hwi hle hr
def JaX(P:Program)(σ:Nat→AV)(h:Hp)(t:TypeId)(x:Operand):AR :=
 match evA σ x with
 | .c (.os n sz off _)=>match h.H n with
  | some [.arr sz' l]=>⟨JM P t=true∧tZok P (Jk P t)=true∧(tZ P (Jk P t)).length=sz∧(tZ P (Jk P t)).all Value.oneCell'=true∧sz=sz'∧0<sz∧off≤l.length,.c (.d (.v (.tuple #[]))),
    { h with H:=upd h.H n (some [.arr sz (l.take off)]) }⟩
  | _=>.bad h
 | _=>.bad h
theorem Jhe{z:Array Value}{n:Nat}(hz:z.toList.all Value.oneCell'=true)(h0:0<z.size):∀ v∈(Builtin.zeroCells z n).toList,v.oneCell'=true:=by
 intro v hv
 unfold Builtin.zeroCells at hv
 simp only[Array.toList_map,List.mem_map]at hv
 obtain⟨i,_,rfl⟩:=hv
 have hlt:=Nat.mod_lt i h0
 rw[List.all_eq_true]at hz
 rw[getElem!_pos z _ hlt]
 exact hz _ (Array.getElem_mem_toList hlt)
theorem JfF(z:Array Value)(n:Nat):(Builtin.zeroCells z n).toList.length=n * z.size:=by
 simp[Builtin.zeroCells]
theorem JlI{Γ:Ctx}{σ:Nat→AV}{h:Hp}(o:Oper)(t:TypeId)(x:Operand)(ho:o.op=.call { callee:=.builtin .clear,args:=#[x],argTypes:=#[t] })(hp:(JaX Γ.P σ h t x).pre):
  VR Γ o σ h (JaX Γ.P σ h t x).val (JaX Γ.P σ h t x).h:=by
 unfold JaX at *
 split at hp
 case h_2=>exact hp.elim
 rename_i n sz off len hx
 split at hp
 case h_2=>exact hp.elim
 rename_i sz' l hrow
 obtain⟨p1,p2,p3,p4,rfl,p5,p6⟩:=hp
 intro a e hop hw K Q hk
 have h1:=hop x (by simp[ho,Op.operands,Call.operands])
 rw[hx]at h1
 have wt:=hw.trunc (k:=off) hrow rfl rfl (by simpa using p6)
 simp only[List.map_nil,List.append_nil]at wt
 unfold JM at p1
 split at p1
 case h_2=>simp at p1
 rename_i el hu
 have he:Jk Γ.P t=el:=by simp[Jk,hu]
 rw[he]at p2 p3 p4
 have quiet:(Builtin.clear_ #[t] o.type #[a.eval x]).run Γ.P e.w=.ok (.tuple #[]) e.w→Oper.wp Γ.P o a e.w K Q:=fun hr=>by
  refine KM (v:=.tuple #[]) (w':=e.w) ?_ (hk _ e wt (.refl _) (.v _))
  simp only[execOp,ho,resolve,invoke,builtin,Sem.run_bind,Sem.run_pure,Result.andThen_ok,List.map_toArray,List.map_cons,List.map_nil,hr]
 rcases h1 with⟨h0,ov,hv⟩|⟨b,cap,k1,k2,hv,k4⟩
 ·refine quiet ?_
  rw[hv]
  cases ov <;> simp[Builtin.clear_,run_underlying hu]
 ·cases len with
  | zero =>
   refine quiet ?_
   rw[hv]
   simp[Builtin.clear_,run_underlying hu]
  | succ m =>
   obtain⟨z,hz,hz2,_⟩:=Vz p2 e.w
   obtain⟨b',cs,ty,h4,h5,h6,h7,_⟩:=wt.boxAt k1 _ (upd_same _ _ _) rfl
   rw[k1]at h4; simp at h4; subst h4
   obtain⟨us,ts,zs,cap',j1,j2,j3,j4,j5,j6,j7,j8,j9⟩:=h6
   have hts:ts=[]:=by cases ts with | nil=>rfl | cons _ _=>exact j4.elim
   subst hts
   rw[List.append_nil]at j1
   rw[k2]at j9
   simp only[Option.some.injEq,Value.slice.injEq]at j9
   have hcap:cap=cap':=j9.2.1
   subst hcap
   have hul:us.length=off * sz:=by rw[j2.length,Kz j3,List.length_take,Nat.min_eq_left p6]
   have hzs:z.cells.size=sz:=by rw[← p3,← hz2]; simp
   have hmul:off * sz+(m+1) * sz≤cs.toList.length:=by
    rw[j7,← Nat.add_mul]
    exact Nat.mul_le_mul_right sz k4
   have hzl:=JfF z.cells (m+1)
   rw[hzs]at hzl
   have hsc:=run_storeCells_at Γ.P b (off * sz) ty (Builtin.zeroCells z.cells (m+1)).toList 0 cs e.w h5 (by rw[hzl,Nat.add_zero]; simpa using hmul) (Jhe (by rw[hz2]; exact p4) (by rw[hzs]; exact p5))
   simp only[Nat.add_zero]at hsc
   have e1:cs.toList.take (off * sz)=us:=by rw[j1,← hul]; simp
   have hnl:(us++(Builtin.zeroCells z.cells (m+1)).toList++cs.toList.drop (off * sz+(Builtin.zeroCells z.cells (m+1)).toList.length)).length=cs.size:=by
    simp only[List.length_append,List.length_drop,hul,hzl]
    rw[← Array.length_toList]
    omega
   obtain⟨w2,l2⟩:=wt.setBox (vs:=us++(Builtin.zeroCells z.cells (m+1)).toList++cs.toList.drop (off * sz+(Builtin.zeroCells z.cells (m+1)).toList.length)) (row':=[.arr sz (l.take off)]) (upd_same _ _ _) k1 h5
    ⟨us,[],(Builtin.zeroCells z.cells (m+1)).toList++cs.toList.drop (off * sz+(Builtin.zeroCells z.cells (m+1)).toList.length),cap,by rw[List.append_nil,List.append_assoc],j2,j3,trivial,.inl rfl,j6,by rw[hnl,← Array.length_toList]; exact j7,j8,k2⟩ hnl rfl (fun hq=>by cases hq)
   rw[e1]at hsc
   have hup:upd (upd h.H n (some [.arr sz (l.take off)])) n (some [.arr sz (l.take off)])=upd h.H n (some [.arr sz (l.take off)]):=by
    funext i; simp only[upd]; split <;> rfl
   simp only[hup]at w2
   refine KM (v:=.tuple #[]) ?_ (hk _ _ w2 l2 (.v _))
   have hr:(Builtin.clear_ #[t] o.type #[.slice (some ⟨b,off * sz,none⟩) (m+1) (cap-off)]).run Γ.P e.w=.ok (.tuple #[]) (e.w.setRow b (us++(Builtin.zeroCells z.cells (m+1)).toList++cs.toList.drop (off * sz+(Builtin.zeroCells z.cells (m+1)).toList.length)).toArray):=by
    simp[Builtin.clear_,run_underlying hu,hz,hsc]
   simp only[execOp,ho,resolve,invoke,builtin,Sem.run_bind,Sem.run_pure,Result.andThen_ok,List.map_toArray,List.map_cons,List.map_nil,hv,hr]
def K3(P:Program)(σ:Nat→AV)(h:Hp)(b:Builtin)(args:List Operand)(ts:List TypeId):AR :=
 match b,args,ts with
 | .len,[x],[t]=>aLen P σ h t x
 | .append,[s,x],[t,u]=>if t=u then Zs P σ h t s x else Zr P σ h t u s x
 | .min,[x,y],_=>VT σ h false x y
 | .max,[x,y],_=>VT σ h true x y
 | .clear,[x],[t]=>JaX P σ h t x
 | _,_,_=>.bad h
def aop(P:Program)(Φ:Nat→Option PF)(Ψ:Nat→Option MF)(op:Op)(σ:Nat→AV)(h:Hp):AR :=
 match op with
 | .move x=>⟨True,evA σ x,h⟩
 | .assign x=>⟨True,evA σ x,h⟩
 | .pick c x y=>JbJ σ h c x y
 | .binOp op t x y _=>aBin P σ h op t x y
 | .unOp op _ x=>aUn σ h op x
 | .convert s d x=>X6 P σ h s d x
 | .alloc t=>Jcv P h t
 | .box _ x=>aBox h σ x
 | .build t ps=>JbV P σ h t ps.toList
 | .buildSlice t n ps=>V8 P σ h t n ps.toList
 | .load t x=>Ja3 P σ h t x
 | .store t x y=>JaR P h σ t x y
 | .nilCheck x=>XH σ h x
 | .slice t x lo hi none=>JaO P σ h t x lo hi
 | .slice t x lo (some hi) (some mx)=>ZZ P σ h t x lo hi mx
 | .makeFunc fn first captured=>Vl σ h fn first.toList captured.toList
 | .makeInterface t x=>V4 P σ h t x
 | .typeAssert x _ t comma=>Vg P σ h x t comma
 | .fieldAddr t x f=>V6 P σ h t x f
 | .field t x f=>Ja4 P σ h t x f
 | .indexAddr t x i=>V7 P σ h t x i
 | .index t x i=>Ja2 P σ h t x i
 | .extract x i=>X5 σ h x i
 | .call c=>match c.callee with
  | .builtin b=>K3 P σ h b c.args.toList c.argTypes.toList
  | .value f=>JaT Φ Ψ σ h f c.args.toList
  | _=>.bad h
 | _=>.bad h
theorem arr1{α:Type}{a:Array α}{x:α}(h:a.toList=[x]):a=#[x]:=Array.ext' (by simpa using h)
theorem arr2{α:Type}{a:Array α}{x y:α}(h:a.toList=[x,y]):a=#[x,y]:=Array.ext' (by simpa using h)
theorem Jfj{Γ:Ctx}{Φ:Nat→Option PF}{Ψ:Nat→Option MF}{σ:Nat→AV}{h:Hp}(hΦ:∀ f pf,Φ f=some pf→Jg Γ.P f∧J7 Γ.P f pf)(hΨ:∀ f mf,Ψ f=some mf→Jg Γ.P f∧JhZ Γ.P f mf)
  (o:Oper) (hp:(aop Γ.P Φ Ψ o.op σ h).pre):VR Γ o σ h (aop Γ.P Φ Ψ o.op σ h).val (aop Γ.P Φ Ψ o.op σ h).h:=by
 cases hop:o.op <;> rw[hop]at hp <;> simp only[aop]at hp ⊢ <;> try (exact hp.elim)
 case move x=>exact JiO o x (.inl hop)
 case assign x=>exact JiO o x (.inr hop)
 case pick c x y=>exact JmH o c x y hop hp
 case binOp op t x y u=>exact Jm4 o op t x y u hop hp
 case unOp op t x=>exact Jns o op t x hop hp
 case convert s d x=>exact JjF o s d x hop hp
 case alloc t=>exact Jlu o t hop hp
 case box t x=>exact Jnd o t x hop hp
 case build t ps=>exact JlD o t ps hop hp
 case buildSlice t n ps=>exact Jhd o t n ps hop hp
 case load t x=>exact Jmr o t x hop hp
 case store t x y=>exact JlP o t x y hop hp
 case nilCheck x=>exact JiC o x hop hp
 case slice t x lo hi mx =>
  cases mx with
  | none=>exact Jly o t x lo hi hop hp
  | some mx=>cases hi with
   | none=>exact hp.elim
   | some hi=>exact Jkp o t x lo hi mx hop hp
 case makeFunc fn first captured=>exact Jir o fn first captured hop hp
 case makeInterface t x=>exact Jib o t x hop hp
 case typeAssert x xt t comma=>exact Jhc o x xt t comma hop hp
 case fieldAddr t x f=>exact Jil o t x f hop hp
 case field t x f=>exact Jlg o t x f hop hp
 case indexAddr t x i=>exact Jhx o t x i hop hp
 case index t x i=>exact Jlz o t x i hop hp
 case extract x i=>exact JjL o x i hop hp
 case call c =>
  obtain⟨callee,args,ts⟩:=c
  cases callee with
  | invoke _ _=>exact hp.elim
  | value f=>exact JmB hΦ hΨ o f args ts hop hp
  | builtin b =>
   simp only at hp ⊢
   unfold K3 at *
   split at hp
   ·rename_i x t h1 h2
    rw[arr1 h1,arr1 h2]at hop
    exact JmS o t x hop hp
   ·rename_i s x t u h1 h2
    split at hp
    ·rename_i htu
     subst htu
     rw[arr2 h1,arr2 h2]at hop
     simp only[if_true]
     exact Jkj o t s x hop hp
    ·rename_i htu
     rw[arr2 h1,arr2 h2]at hop
     simp only[htu,if_false]
     exact Jj5 o t u s x hop hp
   ·rename_i x y h1
    rw[arr2 h1]at hop
    exact JgS o false ts x y (by simpa using hop) hp
   ·rename_i x y h1
    rw[arr2 h1]at hop
    exact JgS o true ts x y (by simpa using hop) hp
   ·rename_i x t h1 h2
    rw[arr1 h1,arr1 h2]at hop
    exact JlI o t x hop hp
   ·exact hp.elim
end Go.Proofs.YtfkhlbhjhdpkoaaDoor
