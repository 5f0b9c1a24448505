/- Calls,and one function for all operations. -/
import Derived.Test.YtaofbminodhcnaaZcab
import Derived.Defers
set_option linter.unusedVariables false
set_option linter.unusedSimpArgs false
namespace Go.Proofs.Ytaofbminodhcnaa
open Go.RowKit
structure PF where
 pre:List D→Prop
 val:List D→D
def Kl(P:Program)(f:Nat)(pf:PF):Prop :=
 ∀ (w:World) (S:Nat→Nat→Prop) (args:List D) (vs:List Value),GW w S→Rn w S args vs→(∀ b o,S b o→b<w.heap.size)→pf.pre args →
  Calls P f ⟨vs⟩ w (fun en w'=>∃ v,en=.returned v∧Grows w w'∧R1 w' S (pf.val args) v)
structure MF where
 pre:List D→List D→Prop
 val:List D→List D→D
 upd:List D→List D→List (Nat×D)
structure GrowsBut (b:Nat) (w w':World):Prop where
 os:w'.os=w.os
 tape:w'.tape=w.tape
 output:w'.output=w.output
 size:w.heap.size≤w'.heap.size
 block:∀ k,k<w.heap.size→k≠b→w'.heap[k]? = w.heap[k]?
def Jfp(w:World)(S:Nat→Nat→Prop):List (Nat×D)→List Value→List Value→Prop
 | [],cs,cs'=>cs'=cs
 | (o,d)::us,cs,cs'=>∃ x,R1 w S d x∧o<cs.length∧Jfp w S us (cs.set o x) cs'
def JkX(row:List C)(us:List (Nat×D)):List C:=us.foldl (fun r p=>r.set p.1 (.d p.2)) row
def Jpt(P:Program)(f:Nat)(mf:MF):Prop :=
 ∀ (w:World) (S:Nat→Nat→Prop) (b:Nat) (cs:Array Value) (ty:TypeId) (row args:List D) (vs:List Value),
  w.heap[b]? = some (.cells cs ty (0,0))→(∀ o,o<cs.size→S b o)→Rn w S row cs.toList→Rn w S args vs→(∀ b o,S b o→b<w.heap.size)→mf.pre row args →
  Calls P f ⟨.pointer (some ⟨b,0,none⟩)::vs⟩ w (fun en w'=>∃ v cs',en=.returned v∧GrowsBut b w w'∧w'.heap[b]? = some (.cells cs' ty (0,0)) ∧
   Jfp w' S (mf.upd row args) cs.toList cs'.toList∧R1 w' S (mf.val row args) v)
def Jh(P:Program)(f:Nat):Prop:=∀ (args:Array Value) (w:World),(callFunc f args).run P w=.ok (.enter f args) w
theorem RCs.set{e:Env}:∀ {l:List C} {vs:List Value} (o:Nat) {c:C} {x:Value},RCs e l vs→RC e c x→RCs e (l.set o c) (vs.set o x)
 | [],[],_,_,_,_,_=>trivial
 | _::_,_::_,0,_,_,⟨_,h2⟩,k=>⟨k,h2⟩
 | _::_,_::_,o+1,_,_,⟨h1,h2⟩,k=>⟨h1,RCs.set o h2 k⟩
theorem Jk1:∀ (us:List (Nat×D)) {row:List C},(∀ c∈row,c.noK=true)→∀ c∈JkX row us,c.noK=true
 | [],_,h=>h
 | p::us,row,h=>Jk1 us (row:=row.set p.1 (.d p.2)) (fun c hc=>by
   rcases List.mem_or_eq_of_mem_set hc with hc | hc
   ·exact h c hc
   ·rw[hc]; rfl)
theorem JsA{row:List C}(h:row.all C.isD=true):∀ c∈row,c.noK=true:=fun c hc=>by
 have:=List.all_eq_true.1 h c hc
 cases c <;> first | rfl | cases this
theorem RCs.upd{e:Env}:∀ (us:List (Nat×D)) {row:List C} {cs cs':List Value},RCs e row cs→Jfp e.w e.S us cs cs'→RCs e (JkX row us) cs'
 | [],_,_,_,h,k=>by cases k; exact h
 | (o,d)::us,row,cs,cs',h,⟨x,k1,_,k3⟩=>RCs.upd us (h.set o (c:=.d d) k1) k3
theorem Jfp.length{w:World}{S:Nat→Nat→Prop}:∀ {us:List (Nat×D)} {cs cs':List Value},Jfp w S us cs cs'→cs'.length=cs.length
 | [],_,_,h=>by cases h; rfl
 | (_,_)::_,_,_,⟨_,_,_,h⟩=>by simpa using Jfp.length h
theorem WInv.upBox_le{Γ:Ctx}{h:Hp}{e:Env}(hw:WInv Γ h e){n:Nat}{row:List C}{b:Nat}{w':World}
  (hn:h.H n=some row) (hρ:e.ρ n=some b) (hg:GrowsBut b e.w w'):e.le { e with w:=w' }:=by
 refine⟨Keep.mk fun c o hc hs=>?_,fun _ _ h=>h,fun _ _ h=>h⟩
 have hne:c≠b:=fun he=>by
  subst he
  exact hs (hw.ownS' hρ (by rw[hn]; simp) hc)
 exact⟨hg.block c hc.lt hne,hs⟩
theorem WInv.upBox{Γ:Ctx}{h:Hp}{e:Env}(hw:WInv Γ h e){n:Nat}{row row':List C}{b:Nat}{cs cs':Array Value}{ty:TypeId}{w':World}
  (hn:h.H n=some row) (hρ:e.ρ n=some b) (hb:e.w.heap[b]? = some (.cells cs ty (0,0))) (hg:GrowsBut b e.w w') (hb':w'.heap[b]? = some (.cells cs' ty (0,0)))
  (hl:cs'.size=cs.size) (hr:RCs { e with w:=w' } row' cs'.toList) (hnb:rowP row=true) (hkc:∀ c∈row',c.noK=true) :
  WInv Γ { h with H:=upd h.H n (some row') } { e with w:=w' }:=by
 have hle:=hw.upBox_le hn hρ hg
 have hτ:e.τ n=some (tyV ty):=by
  obtain⟨ob,o1,o2,_⟩:=hw.boxAny hρ row hn
  rw[hb]at o1; cases o1
  exact o2.ty hnb
 obtain⟨b0,cs0,ty0,q1,q2,q3,q4,q5⟩:=hw.boxAt hρ row hn (ZO hnb)
 rw[hρ]at q1; simp at q1; subst q1
 rw[hb]at q2; simp at q2; obtain⟨rfl,rfl⟩:=q2
 have hblt:b<e.w.heap.size:=(Array.getElem?_eq_some_iff.1 hb).1
 constructor
 ·exact hw.g0
 ·exact hg.os.trans hw.os
 ·exact hg.tape.trans hw.tape
 ·exact hg.output.trans hw.output
 ·exact Nat.le_trans hw.grown hg.size
 ·exact Nat.le_trans hw.hB hg.size
 ·intro c hc hm
  have hne:c≠b:=fun he=>by
   subst he
   rcases q5 with h | h
   ·omega
   ·exact hm h
  exact(hg.block c (Nat.lt_of_lt_of_le hc hw.hB) hne).trans (hw.old c hc hm)
 ·intro c o hc; exact Nat.lt_of_lt_of_le (hw.sdom c o hc) hg.size
 ·exact hw.s0
 ·exact hw.s0B
 ·exact hw.keep.trans hle.keep
 ·intro m r hmr
  by_cases hmn:m=n
  ·subst hmn
   simp only[upd_same,Option.some.injEq]at hmr
   subst hmr
   exact .inr ⟨b,_,hρ,hb',RO.of (.of hr) (fun _=>hτ),fun o ho=>q4 o (by simp only[JcE]at ho; omega),q5⟩
  ·simp only[Ytaofbminodhcnaa.upd,hmn,if_false]at hmr
   rcases hw.box m r hmr with hz | ⟨b',ob,h1,h2,h3,h4,h5⟩
   ·exact .inl hz
   have hne:b'≠b:=fun he=>by
    subst he
    exact hmn (hw.inj m n b' (by simp[hmr]) (by simp[hn]) h1 hρ)
   exact .inr ⟨b',ob,h1,(hg.block b' (Array.getElem?_eq_some_iff.1 h2).1 hne).trans h2,RO.mono hle h3,h4,h5⟩
 ·intro m m' c hm hm'
  have g:∀ i,Ytaofbminodhcnaa.upd h.H n (some row') i≠none→h.H i≠none:=fun i hi=>by
   by_cases hin:i=n
   ·subst hin; simp[hn]
   ·simpa [Ytaofbminodhcnaa.upd,hin] using hi
  exact hw.inj m m' c (g m hm) (g m' hm')
 ·intro k ty' hk
  obtain⟨h0,v,h1,hor⟩:=hw.tok k ty' hk
  refine⟨h0,v,h1,hor.imp id ?_⟩
  rintro ⟨sz,m,xs,hsz,h2,h3,h4⟩
  have hne:∀ c,v.ownBlock=some c→c≠b:=fun c hc he=>by
   subst he
   exact h4 c hc n (by simp[hn]) hρ
  have hblk:∀ c,v.ownBlock=some c→w'.heap[c]? = e.w.heap[c]? := fun c hc=>hg.block c (h2.1.lt c hc).2 (hne c hc)
  refine⟨sz,m,xs,hsz,⟨Jaj h2.1 hblk,h2.2⟩,fun c o hc ho hs=>?_,fun c hc i hi=>?_⟩
  ·have hce:w'.cell? ⟨c,o,none⟩=e.w.cell? ⟨c,o,none⟩:=World.cell?_of_block (hblk c hc)
   exact h3 c o hc ho (by rw[← hce]; exact hs)
  ·have:h.H i≠none:=by
    by_cases hin:i=n
    ·subst hin; simp[hn]
    ·simpa [Ytaofbminodhcnaa.upd,hin] using hi
   exact h4 c hc i this
 ·exact hw.tokinj
 ·intro m hm
  obtain⟨g1,g2,g3,g4,g5⟩:=hw.fresh m hm
  refine⟨?_,g2,g3,g4,g5⟩
  have:m≠n:=fun he=>by rw[he,hn]at g1; cases g1
  simp[Ytaofbminodhcnaa.upd,this,g1]
 ·exact hw.nx0
 ·exact hw.rt
 ·have g:∀ i,Ytaofbminodhcnaa.upd h.H n (some row') i≠none→h.H i≠none:=fun i hi=>by
   by_cases hin:i=n
   ·subst hin; simp[hn]
   ·simpa [Ytaofbminodhcnaa.upd,hin] using hi
  have hnn:h.H n≠none:=by simp[hn]
  refine hw.ext.of (fun _ k=>k) hg.size (fun i m h1 h2=>⟨g i h1,h2⟩) (fun i m h1 k h2=>⟨hg.block m k.lt (fun he=>k.box n hnn (by rw[hρ,he])),fun o ho=>ho⟩)
   (fun i m l h1 k h2 hi=>k.box l (g l hi)) (fun i m l v h1 k h2 hi=>k.tok l v hi) (fun i r j Φ hi hj=>?_)
  by_cases hin:i=n
  ·subst hin
   simp only[upd_same,Option.some.injEq]at hi
   subst hi
   exact(Jcr hkc hj).elim
  ·have hi':h.H i=some r:=by simpa [Ytaofbminodhcnaa.upd,hin] using hi
   refine⟨r,hi',hj,fun b' cs' ty' v q1 q2 q3=>⟨cs',ty',q1,?_,q3⟩,fun m k=>k⟩
   have hne:b'≠b:=fun he=>hin (hw.inj i n b (by simp[hi']) hnn (he ▸ q1) hρ)
   exact(hg.block b' (Array.getElem?_eq_some_iff.1 q2).1 hne).trans q2
def JeP(Φ:Nat→Option PF)(Ψ:Nat→Option MF)(σ:Nat→AV)(h:Hp)(f:Operand)(args:List Operand):AR :=
 match evA σ f with
 | .c (.d (.v (.func (.func n) fs cs))) =>
  match Φ n with
  | some pf=>⟨fs.size=0∧cs.size=0∧(args.all fun x=>(evA σ x).isD)=true∧pf.pre (args.map fun x=>(evA σ x).toD),.c (.d (pf.val (args.map fun x=>(evA σ x).toD))),h⟩
  | none=>match Ψ n,args with
   | some mf,x::rest=>match evA σ x with
    | .c (.pt m 0)=>match h.H m with
     | some row=>⟨fs.size=0∧cs.size=0∧row.all C.isD=true∧(rest.all fun x=>(evA σ x).isD)=true∧mf.pre (row.map C.toD) (rest.map fun x=>(evA σ x).toD),
       .c (.d (mf.val (row.map C.toD) (rest.map fun x=>(evA σ x).toD))),{ h with H:=upd h.H m (some (JkX row (mf.upd (row.map C.toD) (rest.map fun x=>(evA σ x).toD)))) }⟩
     | none=>.bad h
    | _=>.bad h
   | _,_=>.bad h
 | _=>.bad h
theorem Jkq{σ:Nat→AV}{a:Act}{e:Env}:∀ {l:List Operand},(∀ x∈l,RA e (evA σ x) (a.eval x))→(l.all fun x=>(evA σ x).isD)=true →
  Rn e.w e.S (l.map fun x=>(evA σ x).toD) (l.map a.eval)
 | [],_,_=>.anil
 | x::l,h,k=>by
  simp only[List.all_cons,Bool.and_eq_true]at k
  exact .acons _ _ _ _ ((h x (by simp)).toD k.1) (Jkq (fun y hy=>h y (by simp[hy])) k.2)
theorem Jv4{Γ:Ctx}{Φ:Nat→Option PF}{Ψ:Nat→Option MF}{σ:Nat→AV}{h:Hp}(hΦ:∀ f pf,Φ f=some pf→Jh Γ.P f∧Kl Γ.P f pf)(hΨ:∀ f mf,Ψ f=some mf→Jh Γ.P f∧Jpt Γ.P f mf)
  (o:Oper) (f:Operand) (args:Array Operand) (ts:Array TypeId) (ho:o.op=.call { callee:=.value f,args:=args,argTypes:=ts }) (hp:(JeP Φ Ψ σ h f args.toList).pre) :
  VR Γ o σ h (JeP Φ Ψ σ h f args.toList).val (JeP Φ Ψ σ h f args.toList).h:=by
 have hmf:f∈o.op.operands:=by simp[ho,Op.operands,Call.operands]
 have hma:∀ x∈args.toList,x∈o.op.operands:=fun x hx=>by simp[ho,Op.operands,Call.operands]; right; simpa using hx
 unfold JeP at *
 split at hp
 case h_2=>exact hp.elim
 rename_i n fs cs hf
 have hex:∀ (a:Act) (w:World),fs.size=0→cs.size=0→a.eval f=.func (.func n) fs cs→Jh Γ.P n→(execOp a.eval o).run Γ.P w=.ok (.enter n (args.map a.eval)) w:=by
  intro a w h1 h2 h3 h4
  have h1:fs=#[]:=Array.eq_empty_of_size_eq_zero h1
  have h2:cs=#[]:=Array.eq_empty_of_size_eq_zero h2
  subst h1; subst h2
  simp only[execOp,ho,resolve,h3,Deferred.ofValue,Sem.run_bind,Sem.run_pure,Result.andThen_ok,invoke,Array.empty_append,Array.append_empty]
  exact h4 _ _
 split at hp
 ·rename_i pf hpf
  obtain⟨p1,p2,p3,p4⟩:=hp
  obtain⟨c1,c2⟩:=hΦ n pf hpf
  intro a e hop hw K Q hk
  have h1:=hop f hmf
  rw[hf]at h1
  have h1:=R1.vInv h1
  have hargs:=Jkq (fun x hx=>hop x (hma x hx)) p3
  have hc:=c2 e.w e.S _ _ hw.gw hargs hw.sdom p4
  unfold Oper.wp
  rw[hex a e.w p1 p2 h1 c1,Oper.upon_enter]
  have harr:(⟨args.toList.map a.eval⟩:Array Value)=args.map a.eval:=by apply Array.ext'; simp
  rw[harr]at hc
  refine hc.mono ?_
  rintro en w' ⟨v,rfl,hg,hr⟩
  obtain⟨w1,l1⟩:=hw.quiet hg
  exact hk v _ w1 l1 hr
 ·rename_i hnone
  split at hp
  case h_2=>exact hp.elim
  rename_i mf x rest hmfn hargsl
  split at hp
  case h_2=>exact hp.elim
  rename_i m hx
  split at hp
  case h_2=>exact hp.elim
  rename_i row hrow
  obtain⟨p1,p2,p3,p4,p5⟩:=hp
  obtain⟨c1,c2⟩:=hΨ n mf hmfn
  intro a e hop hw K Q hk
  have h1:=hop f hmf
  rw[hf]at h1
  have h1:=R1.vInv h1
  have h2:=hop x (hma x (by rw[hargsl]; simp))
  rw[hx]at h2
  obtain⟨b,h3,h4⟩:=h2
  obtain⟨b',cs0,ty,q1,q2,q3,q4,q5⟩:=hw.boxAt h3 row hrow (ZO (Jg3 p3))
  have q3:=q3.plain (Jg3 p3)
  rw[h3]at q1; simp at q1; subst q1
  have hargs:=Jkq (l:=rest) (fun y hy=>hop y (hma y (by rw[hargsl]; simp[hy]))) p4
  have hc:=c2 e.w e.S b cs0 ty (row.map C.toD) _ _ q2 q4 (RCs.toD p3 q3) hargs hw.sdom p5
  unfold Oper.wp
  rw[hex a e.w p1 p2 h1 c1,Oper.upon_enter]
  have harr:(⟨Value.pointer (some ⟨b,0,none⟩)::rest.map a.eval⟩:Array Value)=args.map a.eval:=by
   apply Array.ext'
   simp[hargsl,h4]
  rw[harr]at hc
  refine hc.mono ?_
  rintro en w' ⟨v,cs',rfl,hg,hb',hu,hr⟩
  have hle:=hw.upBox_le hrow h3 hg
  have hwi:=hw.upBox (row':=JkX row (mf.upd (row.map C.toD) (rest.map fun x=>(evA σ x).toD))) hrow h3 q2 hg hb' (by have:=hu.length; simpa using this) (RCs.upd _ (RCs.mono hle q3) hu) (Jg3 p3) (Jk1 _ (JsA p3))
  exact hk v _ hwi hle hr
def Je0(P:Program)(σ:Nat→AV)(h:Hp)(t:TypeId)(x:Operand):AR :=
 match evA σ x with
 | .c (.os n sz off _)=>match h.H n with
  | some [.arr sz' l]=>⟨JU P t=true∧tZok P (Ju P t)=true∧(tZ P (Ju P t)).length=sz∧(tZ P (Ju P t)).all Value.oneCell'=true∧sz=sz'∧0<sz∧off≤l.length,.c (.d (.v (.tuple #[]))),
    { h with H:=upd h.H n (some [.arr sz (l.take off)]) }⟩
  | _=>.bad h
 | _=>.bad h
theorem Joq{z:Array Value}{n:Nat}(hz:z.toList.all Value.oneCell'=true)(h0:0<z.size):∀ v∈(Builtin.zeroCells z n).toList,v.oneCell'=true:=by
 intro v hv
 unfold Builtin.zeroCells at hv
 simp only[Array.toList_map,List.mem_map]at hv
 obtain⟨i,_,rfl⟩:=hv
 have hlt:=Nat.mod_lt i h0
 rw[List.all_eq_true]at hz
 rw[getElem!_pos z _ hlt]
 exact hz _ (Array.getElem_mem_toList hlt)
theorem JlY(z:Array Value)(n:Nat):(Builtin.zeroCells z n).toList.length=n * z.size:=by
 simp[Builtin.zeroCells]
theorem Ju7{Γ:Ctx}{σ:Nat→AV}{h:Hp}(o:Oper)(t:TypeId)(x:Operand)(ho:o.op=.call { callee:=.builtin .clear,args:=#[x],argTypes:=#[t] })(hp:(Je0 Γ.P σ h t x).pre):
  VR Γ o σ h (Je0 Γ.P σ h t x).val (Je0 Γ.P σ h t x).h:=by
 unfold Je0 at *
 split at hp
 case h_2=>exact hp.elim
 rename_i n sz off len hx
 split at hp
 case h_2=>exact hp.elim
 rename_i sz' l hrow
 obtain⟨p1,p2,p3,p4,rfl,p5,p6⟩:=hp
 intro a e hop hw K Q hk
 have h1:=hop x (by simp[ho,Op.operands,Call.operands])
 rw[hx]at h1
 have wt:=hw.trunc (k:=off) hrow rfl rfl (by simpa using p6)
 simp only[List.map_nil,List.append_nil]at wt
 unfold JU at p1
 split at p1
 case h_2=>simp at p1
 rename_i el hu
 have he:Ju Γ.P t=el:=by simp[Ju,hu]
 rw[he]at p2 p3 p4
 have quiet:(Builtin.clear_ #[t] o.type #[a.eval x]).run Γ.P e.w=.ok (.tuple #[]) e.w→Oper.wp Γ.P o a e.w K Q:=fun hr=>by
  refine KT (v:=.tuple #[]) (w':=e.w) ?_ (hk _ e wt (.refl _) (.v _))
  simp only[execOp,ho,resolve,invoke,builtin,Sem.run_bind,Sem.run_pure,Result.andThen_ok,List.map_toArray,List.map_cons,List.map_nil,hr]
 rcases h1 with⟨h0,ov,hv⟩|⟨b,cap,k1,k2,hv,k4⟩
 ·refine quiet ?_
  rw[hv]
  cases ov <;> simp[Builtin.clear_,run_underlying hu]
 ·cases len with
  | zero =>
   refine quiet ?_
   rw[hv]
   simp[Builtin.clear_,run_underlying hu]
  | succ m =>
   obtain⟨z,hz,hz2,_⟩:=XR p2 e.w
   obtain⟨b',cs,ty,h4,h5,h6,h7,_⟩:=wt.boxAt k1 _ (upd_same _ _ _) rfl
   rw[k1]at h4; simp at h4; subst h4
   obtain⟨us,ts,zs,cap',j1,j2,j3,j4,j5,j6,j7,j8,j9⟩:=h6
   have hts:ts=[]:=by cases ts with | nil=>rfl | cons _ _=>exact j4.elim
   subst hts
   rw[List.append_nil]at j1
   rw[k2]at j9
   simp only[Option.some.injEq,Value.slice.injEq]at j9
   have hcap:cap=cap':=j9.2.1
   subst hcap
   have hul:us.length=off * sz:=by rw[j2.length,Vt j3,List.length_take,Nat.min_eq_left p6]
   have hzs:z.cells.size=sz:=by rw[← p3,← hz2]; simp
   have hmul:off * sz+(m+1) * sz≤cs.toList.length:=by
    rw[j7,← Nat.add_mul]
    exact Nat.mul_le_mul_right sz k4
   have hzl:=JlY z.cells (m+1)
   rw[hzs]at hzl
   have hsc:=run_storeCells_at Γ.P b (off * sz) ty (Builtin.zeroCells z.cells (m+1)).toList 0 cs e.w h5 (by rw[hzl,Nat.add_zero]; simpa using hmul) (Joq (by rw[hz2]; exact p4) (by rw[hzs]; exact p5))
   simp only[Nat.add_zero]at hsc
   have e1:cs.toList.take (off * sz)=us:=by rw[j1,← hul]; simp
   have hnl:(us++(Builtin.zeroCells z.cells (m+1)).toList++cs.toList.drop (off * sz+(Builtin.zeroCells z.cells (m+1)).toList.length)).length=cs.size:=by
    simp only[List.length_append,List.length_drop,hul,hzl]
    rw[← Array.length_toList]
    omega
   obtain⟨w2,l2⟩:=wt.setBox (vs:=us++(Builtin.zeroCells z.cells (m+1)).toList++cs.toList.drop (off * sz+(Builtin.zeroCells z.cells (m+1)).toList.length)) (row':=[.arr sz (l.take off)]) (upd_same _ _ _) k1 h5
    ⟨us,[],(Builtin.zeroCells z.cells (m+1)).toList++cs.toList.drop (off * sz+(Builtin.zeroCells z.cells (m+1)).toList.length),cap,by rw[List.append_nil,List.append_assoc],j2,j3,trivial,.inl rfl,j6,by rw[hnl,← Array.length_toList]; exact j7,j8,k2⟩ hnl rfl (fun hq=>by cases hq) (fun j Φ hj=>(Jcr (l:=[C.arr _ _]) (fun c hc=>by simp at hc; subst hc; rfl) hj).elim)
   rw[e1]at hsc
   have hup:upd (upd h.H n (some [.arr sz (l.take off)])) n (some [.arr sz (l.take off)])=upd h.H n (some [.arr sz (l.take off)]):=by
    funext i; simp only[upd]; split <;> rfl
   simp only[hup]at w2
   refine KT (v:=.tuple #[]) ?_ (hk _ _ w2 l2 (.v _))
   have hr:(Builtin.clear_ #[t] o.type #[.slice (some ⟨b,off * sz,none⟩) (m+1) (cap-off)]).run Γ.P e.w=.ok (.tuple #[]) (e.w.setRow b (us++(Builtin.zeroCells z.cells (m+1)).toList++cs.toList.drop (off * sz+(Builtin.zeroCells z.cells (m+1)).toList.length)).toArray):=by
    simp[Builtin.clear_,run_underlying hu,hz,hsc]
   simp only[execOp,ho,resolve,invoke,builtin,Sem.run_bind,Sem.run_pure,Result.andThen_ok,List.map_toArray,List.map_cons,List.map_nil,hv,hr]
def Xg(P:Program)(σ:Nat→AV)(h:Hp)(b:Builtin)(args:List Operand)(ts:List TypeId):AR :=
 match b,args,ts with
 | .len,[x],[t]=>aLen P σ h t x
 | .append,[s,x],[t,u]=>if t=u then Jc9 P σ h t s x else Jc5 P σ h t u s x
 | .min,[x,y],_=>Jaw σ h false x y
 | .max,[x,y],_=>Jaw σ h true x y
 | .clear,[x],[t]=>Je0 P σ h t x
 | _,_,_=>.bad h
def aop(P:Program)(Φ:Nat→Option PF)(Ψ:Nat→Option MF)(op:Op)(σ:Nat→AV)(h:Hp):AR :=
 match op with
 | .move x=>⟨True,evA σ x,h⟩
 | .assign x=>⟨True,evA σ x,h⟩
 | .pick c x y=>Jf6 σ h c x y
 | .binOp op t x y _=>aBin P σ h op t x y
 | .unOp op _ x=>aUn σ h op x
 | .convert s d x=>JcN P σ h s d x
 | .alloc t=>Jhv P h t
 | .box _ x=>aBox h σ x
 | .build t ps=>Jgg P σ h t ps.toList
 | .buildSlice t n ps=>Ja9 P σ h t n ps.toList
 | .load t x=>JeQ P σ h t x
 | .store t x y=>JeZ P h σ t x y
 | .nilCheck x=>Jcc σ h x
 | .slice t x lo hi none=>JeW P σ h t x lo hi
 | .slice t x lo (some hi) (some mx)=>JdC P σ h t x lo hi mx
 | .makeFunc fn first captured=>X9 σ h fn first.toList captured.toList
 | .makeInterface t x=>Ja6 P σ h t x
 | .typeAssert x _ t comma=>XO P σ h x t comma
 | .fieldAddr t x f=>Ja2 P σ h t x f
 | .field t x f=>JeM P σ h t x f
 | .indexAddr t x i=>Ja3 P σ h t x i
 | .index t x i=>JeI P σ h t x i
 | .extract x i=>JcO σ h x i
 | .lookup t x y c=>JdG P σ h t x y c
 | .makeMap t none=>Jfk P h t
 | .call c=>match c.callee with
  | .builtin b=>Xg P σ h b c.args.toList c.argTypes.toList
  | .value f=>JeP Φ Ψ σ h f c.args.toList
  | _=>.bad h
 | _=>.bad h
theorem arr1{α:Type}{a:Array α}{x:α}(h:a.toList=[x]):a=#[x]:=Array.ext' (by simpa using h)
theorem arr2{α:Type}{a:Array α}{x y:α}(h:a.toList=[x,y]):a=#[x,y]:=Array.ext' (by simpa using h)
theorem Jt8{Γ:Ctx}{Φ:Nat→Option PF}{Ψ:Nat→Option MF}{σ:Nat→AV}{h:Hp}(hΦ:∀ f pf,Φ f=some pf→Jh Γ.P f∧Kl Γ.P f pf)(hΨ:∀ f mf,Ψ f=some mf→Jh Γ.P f∧Jpt Γ.P f mf)
  (o:Oper) (hp:(aop Γ.P Φ Ψ o.op σ h).pre):VR Γ o σ h (aop Γ.P Φ Ψ o.op σ h).val (aop Γ.P Φ Ψ o.op σ h).h:=by
 cases hop:o.op <;> rw[hop]at hp <;> simp only[aop]at hp ⊢ <;> try (exact hp.elim)
 case move x=>exact Jr7 o x (.inl hop)
 case assign x=>exact Jr7 o x (.inr hop)
 case pick c x y=>exact JvW o c x y hop hp
 case binOp op t x y u=>exact Jxr o op t x y u hop hp
 case unOp op t x=>exact Jyg o op t x hop hp
 case convert s d x=>exact JsL o s d x hop hp
 case alloc t=>exact Ju6 o t hop hp
 case box t x=>exact Jx0 o t x hop hp
 case build t ps=>exact Jvl o t ps hop hp
 case buildSlice t n ps=>exact Jow o t n ps hop hp
 case load t x=>exact JwP o t x hop hp
 case store t x y=>exact Jvf o t x y hop hp
 case nilCheck x=>exact Jqz o x hop hp
 case slice t x lo hi mx =>
  cases mx with
  | none=>exact JuG o t x lo hi hop hp
  | some mx=>cases hi with
   | none=>exact hp.elim
   | some hi=>exact Jtn o t x lo hi mx hop hp
 case makeFunc fn first captured=>exact Jqp o fn first captured hop hp
 case makeInterface t x=>exact Jpa o t x hop hp
 case typeAssert x xt t comma=>exact JoC o x xt t comma hop hp
 case fieldAddr t x f=>exact Jpd o t x f hop hp
 case field t x f=>exact Jva o t x f hop hp
 case indexAddr t x i=>exact JoW o t x i hop hp
 case index t x i=>exact JuV o t x i hop hp
 case extract x i=>exact Jsk o x i hop hp
 case lookup t x y c=>exact Jto o t x y c hop hp
 case makeMap t n =>
  cases n with
  | none=>exact Jsv o t hop hp
  | some n=>exact hp.elim
 case call c =>
  obtain⟨callee,args,ts⟩:=c
  cases callee with
  | invoke _ _=>exact hp.elim
  | value f=>exact Jv4 hΦ hΨ o f args ts hop hp
  | builtin b =>
   simp only at hp ⊢
   unfold Xg at *
   split at hp
   ·rename_i x t h1 h2
    rw[arr1 h1,arr1 h2]at hop
    exact JxL o t x hop hp
   ·rename_i s x t u h1 h2
    split at hp
    ·rename_i htu
     subst htu
     rw[arr2 h1,arr2 h2]at hop
     simp only[if_true]
     exact Js2 o t s x hop hp
    ·rename_i htu
     rw[arr2 h1,arr2 h2]at hop
     simp only[htu,if_false]
     exact Jt1 o t u s x hop hp
   ·rename_i x y h1
    rw[arr2 h1]at hop
    exact JnH o false ts x y (by simpa using hop) hp
   ·rename_i x y h1
    rw[arr2 h1]at hop
    exact JnH o true ts x y (by simpa using hop) hp
   ·rename_i x t h1 h2
    rw[arr1 h1,arr1 h2]at hop
    exact Ju7 o t x hop hp
   ·exact hp.elim
end Go.Proofs.Ytaofbminodhcnaa
namespace Go.Proofs.Ytaofbminodhcnaa
open Go.RowKit
def Wk(rt:Nat)(σ:Nat→AV)(h:Hp)(σ':Nat→AV)(h':Hp):Prop :=
 ∀ (Γ:Ctx) (a:Act) (e:Env),Γ.root.length=rt→Jz Γ.nt Γ.ds σ a e→WInv Γ h e→∃ e',e'.w=e.w∧Jz Γ.nt Γ.ds σ' a e'∧WInv Γ h' e'
theorem Wk.refl(rt:Nat)(σ:Nat→AV)(h:Hp):Wk rt σ h σ h:=fun _ _ e _ hs hw=>⟨e,rfl,hs,hw⟩
theorem Wk.trans{rt:Nat}{σ σ1 σ2:Nat→AV}{h h1 h2:Hp}(k:Wk rt σ h σ1 h1)(k':Wk rt σ1 h1 σ2 h2):Wk rt σ h σ2 h2:=fun Γ a e hΓ hs hw=>by
 obtain⟨e1,q1,q2,q3⟩:=k Γ a e hΓ hs hw
 obtain⟨e2,p1,p2,p3⟩:=k' Γ a e1 hΓ q2 q3
 exact⟨e2,p1.trans q1,p2,p3⟩
def sigL:List (Nat×AV)→Nat→AV
 | [],_=>.c .top
 | (i,a)::l,j=>if j=i then a else sigL l j
theorem Jn2(i:Nat)(a:AV)(l:List (Nat×AV))(j:Nat):sigL ((i,a)::l) j=if j=i then a else sigL l j:=rfl
theorem Jpu(j:Nat):sigL [] j=.c .top:=rfl
def Jfs:List C→Option (List C)
 | []=>none
 | c::l=>some (c::l)
theorem JhS{row row':List C}(h:Jfs row=some row'):row'=row∧row≠[]:=by
 cases row with
 | nil=>cases h
 | cons c l=>simp[Jfs]at h; exact⟨h.symm,by simp⟩
def hpH(bs:List (List C))(n:Nat):Option (List C):=if n=0 then none else bs[n-1]?.bind Jfs
def hpT(nb:Nat)(ts:List TypeId)(n:Nat):Option TypeId:=if n≤nb then none else ts[n-nb-1]?
def hpL(bs:List (List C))(ts:List TypeId):Hp:=⟨hpH bs,hpT bs.length ts,bs.length+ts.length+1⟩
structure Ren where
 ps:List Nat
 qs:List Nat
def Ren.p(r:Ren)(n:Nat):Nat:=r.ps.getD (n-1) 0
def Ren.q(r:Ren)(n:Nat):Nat:=r.qs.getD (n-r.ps.length-1) 0
def NsWk(r:Ren):List Nat→List Nat→Prop
 | [],[]=>True
 | n::ns,m::ms=>(r.p m=n∧n≠0∧0<m∧m≤r.ps.length)∧NsWk r ns ms
 | _,_=>False
def CWk(r:Ren):C→C→Prop
 | .arr sz l,.arr sz' l'=>sz=sz'∧l=l'
 | .arr _ _,_=>False
 | .bar l,.bar l'=>l=l'
 | .bar _,_=>False
 | .ob Φ,.ob Φ'=>Φ=Φ'
 | .ob _,_=>False
 | _,.top=>True
 | .d x,.d y=>x=y
 | .sl sz l k,.sl sz' l' k'=>l=l'∧(sz=sz'∨l=[])∧(k=0∨(r.q k'=k∧r.ps.length<k'∧k'≤r.ps.length+r.qs.length))
 | .sl sz l _,.d (.sl sz' l')=>l=l'∧(sz=sz'∨l=[])
 | .sl _ l k,.os _ _ _ len=>l=[]∧k=0∧len=0
 | .sl sz l k,.fs sz' l'=>l=l'∧(sz=sz'∨l=[])∧k=0
 | .fs _ l,.os _ _ _ len=>l=[]∧len=0
 | .fs sz l,.fs sz' l'=>l=l'∧(sz=sz'∨l=[])
 | .fs sz l,.sl sz' l' _=>l=l'∧(sz=sz'∨l=[])
 | .fs sz l,.d (.sl sz' l')=>l=l'∧(sz=sz'∨l=[])
 | .os n sz off len,.os n' sz' off' len'=>r.p n'=n∧n≠0∧sz=sz'∧off=off'∧len=len'∧0<n'∧n'≤r.ps.length
 | .clo f ns,.clo f' ns'=>f=f'∧NsWk r ns ns'
 | .op p n o,.op p' n' o'=>p=p'∧o=o'∧r.p n'=n∧n≠0∧0<n'∧n'≤r.ps.length
 | .ex v d,.ex v' d'=>v=v'∧d=d'
 | .ex _ (.sl sz l),.d (.sl sz' l')=>l=l'∧(sz=sz'∨l=[])
 | .ex v _,.os _ _ _ len=>v=.slice none 0 0∧len=0
 | .pt n o,.pt n' o'=>r.p n'=n∧n≠0∧o=o'∧0<n'∧n'≤r.ps.length
 | .pa n sz i o,.pa n' sz' i' o'=>r.p n'=n∧n≠0∧sz=sz'∧i=i'∧o=o'∧0<n'∧n'≤r.ps.length
 | .pp l,.pp l'=>l=l'
 | .kc Φ,.kc Φ'=>Φ=Φ'
 | .mo n,.mo n'=>r.p n'=n∧n≠0∧0<n'∧n'≤r.ps.length
 | .fm Φ,.fm Φ'=>Φ=Φ'
 | _,_=>False
def CsWk(r:Ren):List C→List C→Prop
 | [],[]=>True
 | x::l,y::m=>CWk r x y∧CsWk r l m
 | _,_=>False
def TcWk(r:Ren):Bool×List C→Bool×List C→Prop
 | (true,l),(true,m)=>CsWk r l m
 | (false,[x]),(false,[y])=>CWk r x y
 | (true,l),(false,[.d (.ag m)])=>CsWk r l (m.map .d)
 | (false,[.d (.ag l)]),(true,m)=>CsWk r (l.map .d) m
 | _,_=>False
def TuWk(r:Ren):List (Bool×List C)→List (Bool×List C)→Prop
 | [],[]=>True
 | x::l,y::m=>TcWk r x y∧TuWk r l m
 | _,_=>False
def AWk(r:Ren):AV→AV→Prop
 | _,.c .top=>True
 | .c (.d (.ag l)),.ag m=>CsWk r (l.map .d) m
 | .ag l,.c (.d (.ag m))=>CsWk r l (m.map .d)
 | .tu l,.tu m=>TuWk r l m
 | .c x,.c y=>CWk r x y
 | .ag l,.ag m=>CsWk r l m
 | .df _,.df _=>True
 | _,_=>False
def LWk(r:Ren)(σ:Nat→AV):List (Nat×AV)→Prop
 | []=>True
 | (i,a)::l=>AWk r (σ i) a∧LWk r σ l
def BWk1(r:Ren):Option (List C)→List C→Prop
 | some row,row'=>CsWk r row row'
 | none,_=>False
def Jds:List C→Prop
 | [.arr sz []]=>0<sz
 | [.bar []]=>True
 | _=>False
def BWk(r:Ren)(h:Hp):Nat→List (List C)→Prop
 | _,[]=>True
 | n,[]::bs=>BWk r h (n+1) bs
 | n,(c::row)::bs=>(if r.p n=0 then Jds (c::row) else BWk1 r (h.H (r.p n)) (c::row))∧BWk r h (n+1) bs
def TWk(r:Ren)(h:Hp):Nat→List TypeId→Prop
 | _,[]=>True
 | n,ty::ts=>(r.q n=0∨h.T (r.q n)=some ty)∧TWk r h (n+1) ts
def renE(r:Ren)(e:Env):Env :=
 ⟨e.w,e.S,fun n=>if(0<n∧n≤r.ps.length)∧r.p n≠0 then e.ρ (r.p n) else none,
  fun n=>if 0<n∧n≤r.ps.length then(if r.p n=0 then none else e.τ (r.p n)) else if r.ps.length<n∧n≤r.ps.length+r.qs.length then(if r.q n=0 then some (.slice none 0 0) else e.τ (r.q n)) else none,
  fun n m=>((0<n∧n≤r.ps.length)∧r.p n≠0)∧e.μ (r.p n) m⟩
theorem JbU{r:Ren}{e:Env}{n:Nat}(h1:0<n)(h2:n≤r.ps.length)(h3:r.p n≠0):(renE r e).ρ n=e.ρ (r.p n):=by simp[renE,h1,h2,h3]
theorem Jfn{r:Ren}{e:Env}{n:Nat}(h1:0<n)(h2:n≤r.ps.length)(h3:r.p n≠0):(renE r e).τ n=e.τ (r.p n):=by simp[renE,h1,h2,h3]
theorem Jl3{r:Ren}{e:Env}{n:Nat}(h3:r.p n=0):(renE r e).ρ n=none:=by simp[renE,h3]
theorem JiK{r:Ren}{e:Env}{n:Nat}(h1:r.ps.length<n)(h2:n≤r.ps.length+r.qs.length):(renE r e).τ n=if r.q n=0 then some (.slice none 0 0) else e.τ (r.q n):=by
 have:¬ n≤r.ps.length:=by omega
 simp[renE,this,h1,h2]
theorem R1.resize'{w:World}{S:Nat→Nat→Prop}{sz sz':Nat}{l l':List D}{v:Value}(h:R1 w S (.sl sz l) v)(he:l=l')(hl:sz=sz'∨l=[]):R1 w S (.sl sz' l') v:=by
 subst he; exact h.resize hl.symm
theorem NsWk.rp{r:Ren}{e:Env}:∀ {ns ms:List Nat} {vs:List Value},NsWk r ns ms→RP e ns vs→RP (renE r e) ms vs
 | [],[],[],_,_=>trivial
 | _::_,_::_,_::_,⟨⟨h1,h2,h3,h4⟩,h5⟩,⟨⟨b,k1,k2⟩,k3⟩=>⟨⟨b,by rw[JbU h3 h4 (by rw[h1]; exact h2),h1]; exact k1,k2⟩,NsWk.rp h5 k3⟩
 | [],_::_,_,h,_=>h.elim
 | _::_,[],_,h,_=>h.elim
 | [],[],_::_,_,h=>h.elim
 | _::_,_::_,[],_,h=>h.elim
theorem Vw.nil{w:World}{S:Nat→Nat→Prop}{sz:Nat}{v:Value}(k1:R1 w S (.sl sz []) v)(k2:Vw v):∃ o,v=.slice o 0 0:=by
 obtain⟨a,m,rfl⟩:=k2
 rcases k1.slInv with⟨_,o,h⟩|⟨vs,b,o,cap,h,_⟩
 ·exact⟨o,h⟩
 ·simp only[List.length_nil,Value.slice.injEq]at h
  obtain⟨_,rfl,rfl⟩:=h
  exact⟨_,rfl⟩
theorem CWk.rc{r:Ren}{e:Env}{c c':C}{v:Value}(h:CWk r c c')(k:RC e c v):RC (renE r e) c' v:=by
 unfold CWk at h
 split at h
 ·exact k.elim
 ·exact h.elim
 ·exact k.elim
 ·exact h.elim
 ·exact k.elim
 ·exact h.elim
 ·trivial
 ·cases h; exact k
 ·obtain⟨h1,h2,h3⟩:=h
  obtain⟨k1,k2⟩:=k
  refine⟨k1.resize' h1 h2,?_⟩
  rcases k2 with k2 | ⟨k2,k3⟩
  ·exact .inl k2
  ·rcases h3 with h3 | ⟨h3,h4,h5⟩
   ·exact absurd h3 k2
   ·refine .inr ⟨by omega,?_⟩
    rw[JiK h4 h5,h3,if_neg k2]; exact k3
 ·obtain⟨h1,h2⟩:=h
  exact k.1.resize' h1 h2
 ·obtain⟨rfl,rfl,rfl⟩:=h
  obtain⟨k1,k2⟩:=k
  exact .inl ⟨rfl,Vw.nil k1 (k2.resolve_right (fun h=>h.1 rfl))⟩
 ·obtain⟨h1,h2,rfl⟩:=h
  obtain⟨k1,k2⟩:=k
  exact⟨k1.resize' h1 h2,k2.resolve_right (fun h=>h.1 rfl)⟩
 ·obtain⟨rfl,rfl⟩:=h
  exact .inl ⟨rfl,Vw.nil k.1 k.2⟩
 ·obtain⟨h1,h2⟩:=h
  exact⟨k.1.resize' h1 h2,k.2⟩
 ·obtain⟨h1,h2⟩:=h
  exact⟨k.1.resize' h1 h2,.inl k.2⟩
 ·obtain⟨h1,h2⟩:=h
  exact k.1.resize' h1 h2
 ·obtain⟨h1,h2,rfl,rfl,rfl,h5,h6⟩:=h
  rcases k with k | ⟨b,cap,k1,k2,k3⟩
  ·exact .inl k
  ·have hne:r.p _≠0:=h1 ▸ h2
   exact .inr ⟨b,cap,by rw[JbU h5 h6 hne,h1]; exact k1,by rw[Jfn h5 h6 hne,h1]; exact k2,k3⟩
 ·obtain⟨rfl,h1⟩:=h
  obtain⟨vs,k1,k2⟩:=k
  exact⟨vs,h1.rp k1,k2⟩
 ·obtain⟨rfl,rfl,h1,h2,h3,h4⟩:=h
  obtain⟨kτ,k⟩:=k
  have hne:r.p _≠0:=h1 ▸ h2
  refine⟨by rw[Jfn h3 h4 hne,h1]; exact kτ,?_⟩
  rcases k with k | ⟨k0,b,k1,k2⟩
  ·exact .inl k
  ·exact .inr ⟨k0,b,by rw[JbU h3 h4 hne,h1]; exact k1,k2⟩
 ·obtain⟨rfl,rfl⟩:=h; exact k
 ·obtain⟨h1,h2⟩:=h
  exact k.2.resize' h1 h2
 ·obtain⟨rfl,rfl⟩:=h
  exact .inl ⟨rfl,none,k.1⟩
 ·obtain⟨h1,h2,rfl,h5,h6⟩:=h
  obtain⟨b,k1,k2⟩:=k
  have hne:r.p _≠0:=h1 ▸ h2
  exact⟨b,by rw[JbU h5 h6 hne,h1]; exact k1,k2⟩
 ·obtain⟨h1,h2,rfl,rfl,rfl,h5,h6⟩:=h
  obtain⟨b,k1,k2⟩:=k
  have hne:r.p _≠0:=h1 ▸ h2
  exact⟨b,by rw[JbU h5 h6 hne,h1]; exact k1,k2⟩
 ·cases h; exact k
 ·trivial
 ·obtain⟨h1,h2,h5,h6⟩:=h
  obtain⟨b,k1,k2⟩:=k
  have hne:r.p _≠0:=h1 ▸ h2
  exact⟨b,by rw[JbU h5 h6 hne,h1]; exact k1,k2⟩
 ·subst h; exact k
 ·exact h.elim
theorem CWk.kcR{r:Ren}{Φ:KP}{c:C}(h:CWk r c (.kc Φ)):c=.kc Φ:=by
 cases c <;> first | exact h.elim | (have h:_=Φ:=h; rw[h])
theorem CsWk.get{r:Ren}:∀ {l l':List C},CsWk r l l'→∀ {j:Nat} {c':C},l'[j]? = some c'→∃ c,l[j]? = some c∧CWk r c c'
 | [],[],_,j,c',h=>by simp at h
 | x::l,y::l',⟨h1,h2⟩,j,c',h=>by
  cases j with
  | zero=>simp at h; subst h; exact⟨x,rfl,h1⟩
  | succ j=>exact CsWk.get h2 (by simpa using h)
 | [],_::_,h,_,_,_=>h.elim
 | _::_,[],h,_,_,_=>h.elim
theorem CsWk.rcs{r:Ren}{e:Env}:∀ {l l':List C} {vs:List Value},CsWk r l l'→RCs e l vs→RCs (renE r e) l' vs
 | [],[],[],_,_=>trivial
 | _::_,_::_,_::_,⟨h1,h2⟩,⟨k1,k2⟩=>⟨CWk.rc h1 k1,CsWk.rcs h2 k2⟩
 | [],[],_::_,_,h=>h.elim
 | _::_,_::_,[],_,h=>h.elim
 | [],_::_,_,h,_=>h.elim
 | _::_,[],_,h,_=>h.elim
theorem CsWk.rowP{r:Ren}:∀ {l l':List C},CsWk r l l'→rowP l'=true→rowP l=true
 | [],_,_,_=>rfl
 | _::_,[],h,_=>h.elim
 | c::_,c'::_,⟨h,_⟩,hp=>by
  cases c <;> first | rfl | skip
  ·cases c' <;> first | exact h.elim | exact hp
  ·cases c' <;> first | exact h.elim | exact hp
  ·cases c' <;> first | exact h.elim | exact hp
theorem CsWk.ro{r:Ren}{e:Env}{n':Nat}{l l':List C}{ob:Obj}(h1:0<n')(h2:n'≤r.ps.length)(h3:r.p n'≠0)(h:CsWk r l l')(hrb:JcF l=true→∀ cs:List Value,RB e (r.p n') l cs→RB (renE r e) n' l' cs)(k:RO e (r.p n') l ob):RO (renE r e) n' l' ob:=by
 unfold RO at k
 split at k
 ·rename_i m rr
  obtain⟨k0,cs,fz,zs,k1,k2,k3,k4,k5⟩:=k
  subst k0
  cases l' with
  | nil=>exact h.elim
  | cons c' cs' =>
   obtain⟨g1,g2⟩:=h
   cases cs' with
   | cons _ _=>exact g2.elim
   | nil =>
    cases c' <;> first | exact g1.elim | skip
    have g1:m=_:=g1
    subst g1
    exact⟨rfl,cs,fz,zs,k1,k2,k3,k4,by rw[Jfn h1 h2 h3]; exact k5⟩
 ·rename_i Φ rr
  obtain⟨k0,k1⟩:=k
  subst k0
  cases l' with
  | nil=>exact h.elim
  | cons c' cs' =>
   obtain⟨g1,g2⟩:=h
   cases cs' with
   | cons _ _=>exact g2.elim
   | nil =>
    cases c' <;> first | exact g1.elim | skip
    have g1:Φ=_:=g1
    subst g1
    exact⟨rfl,k1⟩
 ·rename_i hnb hnb2
  obtain⟨cs,ty,rfl,k2,k3⟩:=k
  refine RO.of (hrb ?_ _ k2) (fun hp=>by rw[Jfn h1 h2 h3]; exact k3 (h.rowP hp))
  cases l with
  | nil=>rfl
  | cons c rr=>cases c <;> first | rfl | exact absurd rfl (hnb _ _) | exact absurd rfl (hnb2 _ _)
theorem CWk.arrL{r:Ren}{sz:Nat}{l:List D}{c:C}(h:CWk r (.arr sz l) c):c=.arr sz l:=by
 cases c <;> first | exact h.elim | (obtain⟨rfl,rfl⟩:=h; rfl)
theorem CsWk.rb{r:Ren}{e:Env}{n':Nat}{l l':List C}{vs:List Value}(h1:0<n')(h2:n'≤r.ps.length)(h3:r.p n'≠0)(h:CsWk r l l')(k:RB e (r.p n') l vs):RB (renE r e) n' l' vs:=by
 unfold RB at k
 split at k
 ·rename_i sz m cs
  obtain⟨us,ts,zs,cap,k1,k2,k3,k4,k5,k6,k7,k8,k9⟩:=k
  cases l' with
  | nil=>exact h.elim
  | cons c' cs' =>
   obtain⟨g1,g2⟩:=h
   have:=g1.arrL
   subst this
   refine⟨us,ts,zs,cap,k1,k2,k3,CsWk.rcs g2 k4,k5.imp (fun h=>?_) id,k6,k7,k8,by rw[Jfn h1 h2 h3]; exact k9⟩
   subst h
   cases cs' with
   | nil=>rfl
   | cons _ _=>exact g2.elim
 ·exact .of (CsWk.rcs h k)
theorem RCs.unD{e:Env}:∀ {l:List D} {vs:List Value},RCs e (l.map C.d) vs→Rn e.w e.S l vs
 | [],[],_=>.anil
 | _::_,_::_,⟨h1,h2⟩=>.acons _ _ _ _ h1 (RCs.unD h2)
theorem TcWk.rt{r:Ren}{e:Env}{x y:Bool×List C}{v:Value}(h:TcWk r x y)(k:RT e x v):RT (renE r e) y v:=by
 unfold TcWk at h
 split at h
 ·obtain⟨vs,rfl,k2⟩:=k
  exact⟨vs,rfl,CsWk.rcs h k2⟩
 ·obtain⟨c,h1,h2⟩:=k
  simp only[List.cons.injEq,and_true]at h1
  subst h1
  exact⟨_,rfl,CWk.rc h h2⟩
 ·obtain⟨vs,rfl,k2⟩:=k
  exact⟨_,rfl,.ag _ _ (RCs.unD (CsWk.rcs h k2))⟩
 ·obtain⟨c,h1,h2⟩:=k
  simp only[List.cons.injEq,and_true]at h1
  subst h1
  obtain⟨vs,rfl,k2⟩:=R1.agInv h2
  exact⟨vs,rfl,CsWk.rcs h (RCs.ofD k2)⟩
 ·exact h.elim
theorem TuWk.rts{r:Ren}{e:Env}:∀ {l l':List (Bool×List C)} {vs:List Value},TuWk r l l'→RTs e l vs→RTs (renE r e) l' vs
 | [],[],[],_,_=>trivial
 | _::_,_::_,_::_,⟨h1,h2⟩,⟨k1,k2⟩=>⟨TcWk.rt h1 k1,TuWk.rts h2 k2⟩
 | [],[],_::_,_,h=>h.elim
 | _::_,_::_,[],_,h=>h.elim
 | [],_::_,_,h,_=>h.elim
 | _::_,[],_,h,_=>h.elim
theorem AWk.ra{r:Ren}{e:Env}{a a':AV}{v:Value}(h:AWk r a a')(k:RA e a v):RA (renE r e) a' v:=by
 unfold AWk at h
 split at h
 ·trivial
 ·obtain⟨vs,rfl,k2⟩:=R1.agInv k
  exact⟨vs,rfl,CsWk.rcs h (RCs.ofD k2)⟩
 ·obtain⟨vs,rfl,k2⟩:=k
  exact .ag _ _ (RCs.unD (CsWk.rcs h k2))
 ·obtain⟨vs,rfl,k2⟩:=k
  exact⟨vs,rfl,TuWk.rts h k2⟩
 ·exact CWk.rc h k
 ·obtain⟨vs,rfl,k2⟩:=k
  exact⟨vs,rfl,CsWk.rcs h k2⟩
 ·exact(show False from k).elim
 ·exact h.elim
theorem LWk.at{r:Ren}{σ:Nat→AV}:∀ {L:List (Nat×AV)},LWk r σ L→∀ i,AWk r (σ i) (sigL L i)
 | [],_,i=>by simp[sigL,AWk]
 | (j,a)::L,⟨h1,h2⟩,i=>by
  simp only[sigL]
  split
  ·rename_i h; subst h; exact h1
  ·exact LWk.at h2 i
theorem BWk.at{r:Ren}{h:Hp}:∀ {bs:List (List C)} {n:Nat},BWk r h n bs→∀ (j:Nat) (row:List C),bs[j]? = some row→row≠[] →
  (r.p (n+j)=0∧Jds row)∨(r.p (n+j)≠0∧∃ row0,h.H (r.p (n+j))=some row0∧CsWk r row0 row)
 | [],_,_,j,row,hj,_=>by simp at hj
 | []::bs,n,h2,j,row,hj,hne=>by
  cases j with
  | zero=>simp at hj; exact absurd hj hne
  | succ j =>
   have:=BWk.at (bs:=bs) h2 j row (by simpa using hj) hne
   rwa [show n+1+j=n+(j+1) by omega]at this
 | (c::b)::bs,n,⟨h1,h2⟩,j,row,hj,hne=>by
  cases j with
  | zero =>
   simp at hj; subst hj
   rw[Nat.add_zero]
   by_cases hp:r.p n=0
   ·rw[if_pos hp]at h1; exact .inl ⟨hp,h1⟩
   ·rw[if_neg hp]at h1
    refine .inr ⟨hp,?_⟩
    cases hr:h.H (r.p n) with
    | none=>rw[hr]at h1; exact h1.elim
    | some row0=>rw[hr]at h1; exact⟨row0,by first | rfl | exact hr,h1⟩
  | succ j =>
   have:=BWk.at h2 j row (by simpa using hj) hne
   rwa [show n+1+j=n+(j+1) by omega]at this
theorem TWk.at{r:Ren}{h:Hp}:∀ {ts:List TypeId} {n:Nat},TWk r h n ts→∀ (j:Nat) (ty:TypeId),ts[j]? = some ty→r.q (n+j)=0∨h.T (r.q (n+j))=some ty
 | [],_,_,j,row,hj=>by simp at hj
 | b::bs,n,⟨h1,h2⟩,j,row,hj=>by
  cases j with
  | zero=>simp at hj; subst hj; exact h1
  | succ j =>
   have:=TWk.at h2 j row (by simpa using hj)
   rwa [show n+1+j=n+(j+1) by omega]at this
def once:List Nat→Bool
 | []=>true
 | n::l=>(n == 0 || !l.contains n) && once l
theorem JgE:∀ {l:List Nat},once l=true→∀ {i j:Nat},l.getD i 0=l.getD j 0→l.getD i 0≠0→i=j
 | [],_,i,j,_,h=>by simp at h
 | n::l,h,i,j,he,hn=>by
  simp only[once,Bool.and_eq_true,Bool.or_eq_true,beq_iff_eq,Bool.not_eq_true',List.contains_eq_mem,decide_eq_false_iff_not]at h
  have mem:∀ k,l.getD k 0≠0→l.getD k 0∈l:=fun k hk=>by
   by_cases hkl:k<l.length
   ·simp only[List.getD_eq_getElem?_getD,List.getElem?_eq_getElem hkl,Option.getD_some]; exact List.getElem_mem _
   ·rw[List.getD_eq_getElem?_getD,List.getElem?_eq_none (by omega)]at hk; simp at hk
  cases i with
  | zero =>
   cases j with
   | zero=>rfl
   | succ j =>
    simp only[List.getD_cons_zero,List.getD_cons_succ]at he hn
    exact absurd (he ▸ mem j (he ▸ hn)) (h.1.resolve_left hn)
  | succ i =>
   cases j with
   | zero =>
    simp only[List.getD_cons_zero,List.getD_cons_succ]at he hn
    exact absurd (he ▸ mem i hn) (h.1.resolve_left (he ▸ hn))
   | succ j =>
    simp only[List.getD_cons_succ]at he hn
    rw[JgE h.2 he hn]
theorem JlV{rt:Nat}{Γ:Ctx}{e:Env}{h:Hp}{bs:List (List C)}{ts:List TypeId}(r:Ren)(hb:bs.length=r.ps.length)(ht:ts.length=r.qs.length)
  (hp:once r.ps=true) (hq:once r.qs=true) (h1:BWk r h 1 bs) (h2:TWk r h (r.ps.length+1) ts) (hrt:(r.ps.take rt == List.range' 1 rt)=true) (hΓ:Γ.root.length=rt) (hw:WInv Γ h e):WInv Γ (hpL bs ts) (renE r e):=by
 have boxIn:∀ n row,(hpL bs ts).H n=some row→0<n∧n≤r.ps.length∧((r.p n=0∧Jds row)∨(r.p n≠0∧∃ row0,h.H (r.p n)=some row0∧CsWk r row0 row)):=fun n row hn=>by
  simp only[hpL,hpH]at hn
  split at hn
  ·cases hn
  ·obtain⟨row',hn,hl⟩:=Option.bind_eq_some_iff.1 hn
   obtain⟨rfl,hne⟩:=JhS hl
   have hlt:=(List.getElem?_eq_some_iff.1 hn).1
   have g:=h1.at (n-1) row hn hne
   rw[show 1+(n-1)=n by omega]at g
   exact⟨by omega,by omega,g⟩
 have tokIn:∀ n ty,(hpL bs ts).T n=some ty→r.ps.length<n∧n≤r.ps.length+r.qs.length∧(r.q n=0∨h.T (r.q n)=some ty):=fun n ty hn=>by
  simp only[hpL,hpT]at hn
  split at hn
  ·cases hn
  ·have hlt:=(List.getElem?_eq_some_iff.1 hn).1
   have:=h2.at (n-bs.length-1) ty hn
   rw[show r.ps.length+1+(n-bs.length-1)=n by omega]at this
   exact⟨by omega,by omega,this⟩
 have boxNe:∀ n b,(hpL bs ts).H n≠none→(renE r e).ρ n=some b→0<n∧n≤r.ps.length∧r.p n≠0∧h.H (r.p n)≠none∧e.ρ (r.p n)=some b:=fun n b hn hb=>by
  obtain⟨row,hr⟩:=Option.ne_none_iff_exists'.1 hn
  obtain⟨g1,g2,⟨g3,_⟩|⟨g3,row0,g4,_⟩⟩:=boxIn n row hr
  ·rw[Jl3 g3]at hb; cases hb
  ·rw[JbU g1 g2 g3]at hb
   exact⟨g1,g2,g3,by rw[g4]; simp,hb⟩
 have tokNe:∀ n,(hpL bs ts).T n≠none→r.ps.length<n∧n≤r.ps.length+r.qs.length∧(r.q n=0∨h.T (r.q n)≠none):=fun n hn=>by
  obtain⟨ty,hr⟩:=Option.ne_none_iff_exists'.1 hn
  obtain⟨g1,g2,g3⟩:=tokIn n ty hr
  exact⟨g1,g2,g3.imp id fun h=>by rw[h]; simp⟩
 have hτ0:∀ n,r.ps.length<n→n≤r.ps.length+r.qs.length→r.q n=0→(renE r e).τ n=some (.slice none 0 0):=fun n g1 g2 g3=>by rw[JiK g1 g2,if_pos g3]
 have hτ:∀ n,r.ps.length<n→n≤r.ps.length+r.qs.length→r.q n≠0→(renE r e).τ n=e.τ (r.q n):=fun n g1 g2 g3=>by rw[JiK g1 g2,if_neg g3]
 constructor
 ·exact hw.g0
 ·exact hw.os
 ·exact hw.tape
 ·exact hw.output
 ·exact hw.grown
 ·exact hw.hB
 ·exact hw.old
 ·exact hw.sdom
 ·exact hw.s0
 ·exact hw.s0B
 ·exact hw.keep
 ·intro n row hn
  obtain⟨g1,g2,⟨g3,g4⟩|⟨g3,row0,g4,g5⟩⟩:=boxIn n row hn
  ·refine .inl ⟨Jl3 g3,?_⟩
   unfold Jds at g4
   split at g4
   ·exact .inl ⟨_,rfl,g4⟩
   ·exact .inr rfl
   ·exact g4.elim
  ·rcases hw.box _ row0 g4 with⟨q1,⟨sz,rfl,q3⟩ | rfl⟩|⟨b,ob,q1,q2,q3,q4,q5⟩
   ·refine .inl ⟨by rw[JbU g1 g2 g3]; exact q1,.inl ⟨sz,?_,q3⟩⟩
    cases row with
    | nil=>exact g5.elim
    | cons c' cs' =>
     obtain⟨k1,k2⟩:=g5
     cases cs' with
     | cons _ _=>exact k2.elim
     | nil=>rw[k1.arrL]
   ·refine .inl ⟨by rw[JbU g1 g2 g3]; exact q1,.inr ?_⟩
    cases row with
    | nil=>exact g5.elim
    | cons c' cs' =>
     obtain⟨k1,k2⟩:=g5
     cases cs' with
     | cons _ _=>exact k2.elim
     | nil =>
      cases c' <;> first | exact k1.elim | skip
      have k1:[]=_:=k1
      rw[← k1]
   ·exact .inr ⟨b,ob,by rw[JbU g1 g2 g3]; exact q1,q2,CsWk.ro g1 g2 g3 g5 (fun _ cs hrb=>CsWk.rb g1 g2 g3 g5 hrb) q3,q4,q5⟩
 ·intro n m b hn hm hnb hmb
  obtain⟨g1,g2,g3,g4,g5⟩:=boxNe n b hn hnb
  obtain⟨k1,k2,k3,k4,k5⟩:=boxNe m b hm hmb
  have:=hw.inj _ _ b g4 k4 g5 k5
  have:=JgE hp this g3
  omega
 ·intro k ty hk
  obtain⟨g1,g2,g3⟩:=tokIn k ty hk
  refine⟨by omega,?_⟩
  by_cases hq0:r.q k=0
  ·exact⟨_,hτ0 k g1 g2 hq0,.inl ⟨none,0,rfl⟩⟩
  ·have g3:=g3.resolve_left hq0
   obtain⟨_,v,q1,q2⟩:=hw.tok _ ty g3
   refine⟨v,by rw[hτ k g1 g2 hq0]; exact q1,q2.imp id ?_⟩
   rintro ⟨sz,n,xs,z1,z2,z3,z4⟩
   refine⟨sz,n,xs,z1,z2,z3,fun b hb m hm=>?_⟩
   intro hmb
   obtain⟨k1,k2,k3,k4,k5⟩:=boxNe m b hm hmb
   exact z4 b hb _ k4 k5
 ·intro k m v u b hk hm hv hu hvb hub hfv hfu
  obtain⟨g1,g2,g3⟩:=tokNe k hk
  obtain⟨k1,k2,k3⟩:=tokNe m hm
  have e1:r.q k≠0:=fun h0=>by
   rw[hτ0 k g1 g2 h0]at hv
   simp at hv; subst hv
   exact hfv ⟨none,0,rfl⟩
  have e2:r.q m≠0:=fun h0=>by
   rw[hτ0 m k1 k2 h0]at hu
   simp at hu; subst hu
   exact hfu ⟨none,0,rfl⟩
  rw[hτ k g1 g2 e1]at hv
  rw[hτ m k1 k2 e2]at hu
  have:=hw.tokinj _ _ v u b (g3.resolve_left e1) (k3.resolve_left e2) hv hu hvb hub hfv hfu
  have:=JgE hq this e1
  omega
 ·intro n hn
  have hn:bs.length+ts.length+1≤n:=hn
  have b1:¬ n≤bs.length:=by omega
  have b2:¬ n=0:=by omega
  have b3:¬ (0<n∧n≤r.ps.length):=by omega
  have b5:¬ ((0<n∧n≤r.ps.length)∧r.p n≠0):=fun h=>b3 h.1
  have b4:¬ (r.ps.length<n∧n≤r.ps.length+r.qs.length):=by omega
  refine⟨?_,?_,?_,?_,fun m hm=>b5 hm.1⟩
  ·simp only[hpL,hpH,b2,if_false]; rw[List.getElem?_eq_none (by omega)]; rfl
  ·simp only[hpL,hpT,b1,if_false]; exact List.getElem?_eq_none (by omega)
  ·simp only[renE,b5,if_false]
  ·simp only[renE,b3,b4,if_false]
 ·exact Nat.succ_pos _
 ·have hrt:r.ps.take rt=List.range' 1 rt:=by simpa using hrt
  have hle:rt≤r.ps.length:=by
   have:=congrArg List.length hrt
   simp at this; omega
  refine⟨by simp only[hpL]; omega,fun i x hx=>?_⟩
  have hi:i<rt:=by have:=(List.getElem?_eq_some_iff.1 hx).1; omega
  have hp1:r.p (i+1)=i+1:=by
   have h1:(r.ps.take rt)[i]? = some (i+1):=by rw[hrt]; simp[List.getElem?_range',hi]; omega
   rw[List.getElem?_take,if_pos hi]at h1
   simp[Ren.p,List.getD_eq_getElem?_getD,h1]
  have hne:r.p (i+1)≠0:=by omega
  have h2:=hw.rt.2 i x hx
  exact⟨by rw[JbU (Nat.succ_pos i) (by omega) hne,hp1]; exact h2.1,by rw[Jfn (Nat.succ_pos i) (by omega) hne,hp1]; exact h2.2⟩
 ·have live:∀ n,(hpL bs ts).H n≠none→r.p n≠0→h.H (r.p n)≠none:=fun n hn h0=>by
   obtain⟨row,hr⟩:=Option.ne_none_iff_exists'.1 hn
   obtain⟨_,_,⟨g3,_⟩|⟨_,row0,g4,_⟩⟩:=boxIn n row hr
   ·exact absurd g3 h0
   ·rw[g4]; simp
  refine⟨fun n m hn hm=>?_,fun n row j Φ hn hj=>?_⟩
  ·have k:=hw.ext.mu (r.p n) m (live n hn hm.1.2) hm.2
   refine⟨k.lt,k.s,k.own,fun i hi hρ=>?_,fun i v hi hv hf hb=>?_,fun i hi him=>?_,k.ob⟩
   ·obtain⟨_,_,_,q4,q5⟩:=boxNe i m hi hρ
    exact k.box _ q4 q5
   ·obtain⟨q1,q2,q3⟩:=tokNe i hi
    have e1:r.q i≠0:=fun h0=>by
     rw[hτ0 i q1 q2 h0]at hv
     simp at hv; subst hv
     exact hf ⟨none,0,rfl⟩
    rw[hτ i q1 q2 e1]at hv
    exact k.tok _ v (q3.resolve_left e1) hv hf hb
   ·have q:=k.one _ (live i hi him.1.2) him.2
    have:=JgE hp q him.1.2
    have:=him.1.1.1
    have:=hm.1.1.1
    omega
  ·obtain⟨g1,g2,⟨g3,g4⟩|⟨g3,row0,g4,g5⟩⟩:=boxIn n row hn
   ·refine(Jcr (l:=row) (fun c hc=>?_) hj).elim
    unfold Jds at g4
    split at g4
    ·simp at hc; subst hc; rfl
    ·simp at hc; subst hc; rfl
    ·exact g4.elim
   ·obtain⟨c,q1,q2⟩:=g5.get hj
    rw[q2.kcR]at q1
    obtain⟨b,cs,ty,v,k1,k2,k3,k4⟩:=hw.ext.kc _ row0 j Φ g4 q1
    exact⟨b,cs,ty,v,by rw[JbU g1 g2 g3]; exact k1,k2,k3,Φ.fr _ _ _ _ _ k4 (fun _ _=>rfl) (fun m hm=>⟨⟨⟨g1,g2⟩,g3⟩,hm⟩)⟩
def DlWk(r:Ren):List (Nat×List C)→List (Nat×List C)→Prop
 | [],[]=>True
 | (f,l)::m,(f',l')::m'=>(f=f'∧CsWk r l l')∧DlWk r m m'
 | _,_=>False
theorem DlWk.rdl{r:Ren}{e:Env}:∀ {l m:List (Nat×List C)} {dl:List Deferred},DlWk r l m→RDl e l dl→RDl (renE r e) m dl
 | [],[],[],_,_=>trivial
 | (_,_)::_,(_,_)::_,_::_,⟨⟨rfl,h2⟩,h3⟩,⟨⟨cap,vs,k1,k2,k3⟩,k4⟩=>⟨⟨cap,vs,k1,k2,CsWk.rcs h2 k3⟩,DlWk.rdl h3 k4⟩
 | [],[],_::_,_,k=>k.elim
 | (_,_)::_,(_,_)::_,[],_,k=>k.elim
 | [],_::_,_,h,_=>h.elim
 | _::_,[],_,h,_=>h.elim
theorem DlWk.rdf{r:Ren}{e:Env}{a a':AV}{ds dl:List Deferred}(h:DlWk r (dfL a) (dfL a'))(k:RDf e ds a dl):RDf (renE r e) ds a' dl :=
 let ⟨q,h1,h2⟩:=k; ⟨q,h1,h.rdl h2⟩
theorem Jx1{rt:Nat}{σ:Nat→AV}{h:Hp}{L:List (Nat×AV)}{bs:List (List C)}{ts:List TypeId}(r:Ren)(hb:bs.length=r.ps.length)(ht:ts.length=r.qs.length)
  (hp:once r.ps=true) (_hp0:true=true) (hq:once r.qs=true) (h1:BWk r h 1 bs) (h2:TWk r h (r.ps.length+1) ts) (h3:LWk r σ L) (hds:DlWk r (dfL (σ DS)) (dfL (sigL L DS))) (hrt:(r.ps.take rt == List.range' 1 rt)=true):Wk rt σ h (sigL L) (hpL bs ts) :=
 fun _ _ e hΓ hs hw=>⟨renE r e,rfl,⟨hs.1,⟨hds.rdf hs.2.1.1,hs.2.1.2⟩,fun i hi=>(h3.at i).ra (hs.2.2 i hi)⟩,JlV r hb ht hp hq h1 h2 hrt hΓ hw⟩
def frzC(n:Nat)(d:D)(len:Nat):C→C
 | .os m sz off len'=>if m=n then(if len'=len∧off=0 then .d d else .top) else .os m sz off len'
 | c=>c
def frzA(n:Nat)(d:D)(len:Nat):AV→AV
 | .c x=>.c (frzC n d len x)
 | .ag l=>.ag (l.map (frzC n d len))
 | .tu l=>.tu (l.map fun x=>(x.1,x.2.map (frzC n d len)))
 | .df l=>.df (l.map fun x=>(x.1,x.2.map (frzC n d len)))
def frzH(n:Nat)(d:D)(len:Nat)(h:Hp):Hp:={ h with H:=fun m=>if m=n then none else(h.H m).map (List.map (frzC n d len)) }
def bxC(n:Nat)(l0:List D):C→C
 | .pt m off=>if m=n∧off=0 then .pp l0 else .pt m off
 | c=>c
def bxA(n:Nat)(l0:List D):AV→AV
 | .c x=>.c (bxC n l0 x)
 | .ag l=>.ag (l.map (bxC n l0))
 | .tu l=>.tu (l.map fun x=>(x.1,x.2.map (bxC n l0)))
 | .df l=>.df (l.map fun x=>(x.1,x.2.map (bxC n l0)))
def bxH(n:Nat)(l0:List D)(h:Hp):Hp:={ h with H:=fun m=>if m=n then none else(h.H m).map (List.map (bxC n l0)) }
def BxOk(n:Nat)(l0:List D)(e e':Env):Prop:=∀ v,RC e (.pt n 0) v→RC e' (.pp l0) v
theorem JpZ{n:Nat}{l0:List D}{e e':Env}(hle:e.le e')(hf:BxOk n l0 e e'){c:C}{v:Value}(h:RC e c v):RC e' (bxC n l0 c) v:=by
 unfold bxC
 split
 ·rename_i m off
  split
  ·rename_i hm
   obtain⟨rfl,rfl⟩:=hm
   exact hf v h
  ·exact RC.mono hle h
 ·exact RC.mono hle h
theorem Jga{n:Nat}{l0:List D}{e e':Env}(hle:e.le e')(hf:BxOk n l0 e e'):∀ {l:List C} {vs:List Value},RCs e l vs→RCs e' (l.map (bxC n l0)) vs
 | [],[],_=>trivial
 | _::_,_::_,⟨h1,h2⟩=>⟨JpZ hle hf h1,Jga hle hf h2⟩
theorem JlP{n:Nat}{l0:List D}{e e':Env}(hle:e.le e')(hf:BxOk n l0 e e'):∀ {l:List (Bool×List C)} {vs:List Value},RTs e l vs→RTs e' (l.map fun x=>(x.1,x.2.map (bxC n l0))) vs
 | [],[],_=>trivial
 | (true,_)::_,_::_,⟨⟨vs,h1,h2⟩,h3⟩=>⟨⟨vs,h1,Jga hle hf h2⟩,JlP hle hf h3⟩
 | (false,_)::_,_::_,⟨⟨c,h1,h2⟩,h3⟩=>by
  subst h1
  exact⟨⟨_,rfl,JpZ hle hf h2⟩,JlP hle hf h3⟩
theorem JxN{n:Nat}{l0:List D}{e e':Env}(hle:e.le e')(hf:BxOk n l0 e e'):∀ {a:AV} {v:Value},RA e a v→RA e' (bxA n l0 a) v
 | .c _,_,h=>JpZ hle hf h
 | .ag _,_,⟨vs,h1,h2⟩=>⟨vs,h1,Jga hle hf h2⟩
 | .tu _,_,⟨vs,h1,h2⟩=>⟨vs,h1,JlP hle hf h2⟩
 | .df _,_,h=>h.elim
theorem JtL{n:Nat}{l0:List D}{e e':Env}(hle:e.le e')(hf:BxOk n l0 e e'):∀ {l:List (Nat×List C)} {m:List Deferred},RDl e l m→RDl e' (l.map fun x=>(x.1,x.2.map (bxC n l0))) m
 | [],[],_=>trivial
 | (_,_)::_,_::_,⟨⟨cap,vs,k1,k2,k3⟩,k4⟩=>⟨⟨cap,vs,k1,k2,Jga hle hf k3⟩,JtL hle hf k4⟩
theorem JxW{n:Nat}{l0:List D}{e e':Env}(hle:e.le e')(hf:BxOk n l0 e e'){a:AV}{ds dl:List Deferred}(k:RDf e ds a dl):RDf e' ds (bxA n l0 a) dl:=by
 obtain⟨r,h1,h2⟩:=k
 refine⟨r,h1,?_⟩
 have:=JtL hle hf h2
 cases a <;> exact this
theorem Jye{n m:Nat}{l0:List D}{e e':Env}(hle:e.le e')(hf:BxOk n l0 e e'){row:List C}{vs:List Value}(h:RB e m row vs):RB e' m (row.map (bxC n l0)) vs:=by
 unfold RB at h
 split at h
 ·obtain⟨us,ts,zs,cap,k1,k2,k3,k4,k5,k6,k7,k8,k9⟩:=h
  exact⟨us,ts,zs,cap,k1,RD.mono hle.keep k2,k3,Jga hle hf k4,k5.imp (fun h=>by rw[h]; rfl) id,k6,k7,k8,hle.toks _ _ k9⟩
 ·exact .of (Jga hle hf h)
theorem Jwt{n:Nat}{l0:List D}{row:List C}:rowP (row.map (bxC n l0))=rowP row:=by
 cases row with
 | nil=>rfl
 | cons c l =>
  have:(bxC n l0 c).isArr=c.isArr:=by
   unfold bxC
   split
   ·split <;> rfl
   ·rfl
  show(!(bxC n l0 c).isArr)=!c.isArr
  rw[this]
theorem Jyj{n m:Nat}{l0:List D}{e e':Env}(hle:e.le e')(hf:BxOk n l0 e e'){row:List C}{ob:Obj}(h:RO e m row ob):RO e' m (row.map (bxC n l0)) ob:=by
 unfold RO at h
 split at h
 ·obtain⟨rfl,cs,fz,zs,k1,k2,k3,k4,k5⟩:=h
  exact⟨rfl,cs,fz,zs,k1,k2,k3,k4,hle.toks _ _ k5⟩
 ·obtain⟨rfl,k⟩:=h
  exact⟨rfl,k⟩
 ·obtain⟨cs,ty,rfl,k,k3⟩:=h
  exact RO.of (Jye hle hf k) (fun hp=>hle.toks _ _ (k3 (by rwa [Jwt]at hp)))
theorem JxT{rt:Nat}{σ:Nat→AV}{h:Hp}{n:Nat}{l:List D}(hH:h.H n=some (l.map .d))(hne:l≠[]):
  Wk rt σ h (fun i=>bxA n l (σ i)) (bxH n l h):=by
 intro Γ a e hΓ hs hw
 have hgen:∀ e':Env,e'.w=e.w→e.le e'→BxOk n l e e'→e'.ρ=e.ρ→e'.τ=e.τ→e'.μ=e.μ→(∀ c o,e'.S c o→e.S c o)→(∀ c o,e.S c o→e.ρ n≠some c→e'.S c o) →
   (∀ b o,Γ.S0 b o→¬ Γ.M b→e'.S b o) →
   ∃ e',e'.w=e.w∧Jz Γ.nt Γ.ds (fun i=>bxA n l (σ i)) a e'∧WInv Γ (bxH n l h) e':=by
  intro e' hw' hle hf hρ hτ hμ hS1 hS2 hS0
  have g:∀ i,(bxH n l h).H i≠none→i≠n∧h.H i≠none:=fun i hi=>by
   simp only[bxH]at hi
   split at hi
   ·exact absurd rfl hi
   ·rename_i hin
    exact⟨hin,fun h0=>hi (by rw[h0]; rfl)⟩
  refine⟨e',hw',⟨hs.1,⟨JxW hle hf hs.2.1.1,hs.2.1.2⟩,fun i hi=>JxN hle hf (hs.2.2 i hi)⟩,?_⟩
  constructor
  ·exact hw.g0
  ·rw[hw']; exact hw.os
  ·rw[hw']; exact hw.tape
  ·rw[hw']; exact hw.output
  ·rw[hw']; exact hw.grown
  ·rw[hw']; exact hw.hB
  ·rw[hw']; exact hw.old
  ·intro c o hc; rw[hw']; exact hw.sdom c o (hS1 c o hc)
  ·exact hS0
  ·exact hw.s0B
  ·rw[hw']; exact hw.keep.trans (by have:=hle.keep; rw[hw']at this; exact this)
  ·intro m r hm
   simp only[bxH]at hm
   split at hm
   ·cases hm
   ·rename_i hmn
    obtain⟨r0,hr0,rfl⟩:=Option.map_eq_some_iff.1 hm
    rcases hw.box m r0 hr0 with⟨z1,z2⟩|⟨b,ob,q1,q2,q3,q4,q5⟩
    ·refine .inl ⟨by rw[hρ]; exact z1,?_⟩
     rcases z2 with⟨sz',rfl,h0⟩ | rfl
     ·exact .inl ⟨sz',rfl,h0⟩
     ·exact .inr rfl
    ·refine .inr ⟨b,ob,by rw[hρ]; exact q1,by rw[hw']; exact q2,Jyj hle hf q3,fun o ho=>hS2 b o (q4 o ho) (fun hb=>?_),q5⟩
     exact hmn (hw.inj m n b (by rw[hr0]; simp) (by rw[hH]; simp) q1 hb)
  ·intro m m' c hm hm' h1 h2
   rw[hρ]at h1 h2
   exact hw.inj m m' c (g m hm).2 (g m' hm').2 h1 h2
  ·intro k ty hk
   obtain⟨h0,v,q1,q2⟩:=hw.tok k ty hk
   refine⟨h0,v,by rw[hτ]; exact q1,q2.imp id ?_⟩
   rintro ⟨s9,m,xs,z1,z2,z3,z4⟩
   refine⟨s9,m,xs,z1,by rw[hw']; exact z2,fun c o hc ho hx=>?_,fun c hc i hi=>?_⟩
   ·rw[hw']at hx
    exact hS2 c o (z3 c o hc ho hx) (fun hb=>z4 c hc n (by rw[hH]; simp) hb)
   ·rw[hρ]; exact z4 c hc i (g i hi).2
  ·intro k m v u b hk hm hv hu
   rw[hτ]at hv hu
   exact hw.tokinj k m v u b hk hm hv hu
  ·intro m hm
   obtain⟨g1,g2,g3,g4,g5⟩:=hw.fresh m hm
   refine⟨?_,g2,by rw[hρ]; exact g3,by rw[hτ]; exact g4,by rw[hμ]; exact g5⟩
   simp only[bxH,g1]
   split <;> rfl
  ·exact hw.nx0
  ·refine⟨hw.rt.1,fun i x hx=>?_⟩
   rw[hρ,hτ]; exact hw.rt.2 i x hx
  ·refine hw.ext.of (fun _ k=>k) (by rw[hw']; exact Nat.le_refl _) (fun i m h1 h2=>⟨(g i h1).2,by rw[← hμ]; exact h2⟩)
    (fun i m h1 k h2=>⟨by rw[hw'],fun o ho=>hS2 m o ho (k.box n (by rw[hH]; simp))⟩)
    (fun i m l h1 k h2 hi=>by rw[hρ]; exact k.box l (g l hi).2) (fun i m l v h1 k h2 hi hv=>by rw[hτ]at hv; exact k.tok l v hi hv) (fun i r j Φ hi hj=>?_)
   simp only[bxH]at hi
   split at hi
   ·cases hi
   ·obtain⟨r0,hr0,rfl⟩:=Option.map_eq_some_iff.1 hi
    rw[List.getElem?_map]at hj
    obtain⟨c,hc,hj⟩:=Option.map_eq_some_iff.1 hj
    refine⟨r0,hr0,?_,fun b' cs' ty' v q1 q3 q4=>⟨cs',ty',by rw[hρ]; exact q1,by rw[hw']; exact q3,q4⟩,fun m k=>by rw[hμ]; exact k⟩
    rw[hc]
    congr 1
    unfold bxC at hj
    split at hj
    ·split at hj <;> cases hj
    ·exact hj
 obtain⟨d0,l1,rfl⟩:=List.exists_cons_of_ne_nil hne
 obtain⟨b,cs,ty,q1,q2,q3,q4,q5⟩:∃ b cs ty,e.ρ n=some b∧e.w.heap[b]? = some (.cells cs ty (0,0))∧RCs e ((d0::l1).map .d) cs.toList∧(∀ o,o<cs.size→e.S b o)∧(Γ.B≤b∨Γ.M b):=by
  rcases hw.box n _ hH with⟨z1,⟨sz',z2,z3⟩ | z2⟩|⟨b,ob,q1,q2,q3,q4,q5⟩
  ·simp at z2
  ·simp at z2
  ·obtain⟨cur,ty,rfl,k1,_⟩:=q3
   exact⟨b,cur,ty,q1,q2,k1.plain rfl,q4,q5⟩
 have hle:e.le { e with S:=fun c o=>e.S c o∧¬ c=b }:=⟨⟨fun c o x hc hS=>⟨hc,fun h=>hS h.1⟩,fun c es k hc hS=>⟨hc,fun h=>hS h.1⟩⟩,fun _ _ h=>h,fun _ _ h=>h⟩
 refine hgen { e with S:=fun c o=>e.S c o∧¬ c=b } rfl hle (fun v hv=>?_) rfl rfl rfl (fun _ _ h=>h.1) (fun c o h hne=>⟨h,fun h'=>hne (by rw[h']; exact q1)⟩) (fun c o h0 hm=>⟨hw.s0 c o h0 hm,fun h'=>?_⟩)
 ·obtain⟨b',k1,rfl⟩:=hv
  rw[q1]at k1; cases k1
  refine⟨b,0,cs.toList,rfl,RD.mono hle.keep (RCs.unD q3),fun i x hx=>⟨?_,fun h=>h.2 rfl⟩⟩
  simp only[World.cell?,q2,Nat.zero_add]
  simpa using hx
 ·subst h'
  rcases q5 with q5 | q5
  ·have:=hw.s0B c o h0; omega
  ·exact hm q5
def rnC(n m:Nat):C→C
 | .os k sz off len=>.os (if k=n then m else k) sz off len
 | .pa k sz i off=>.pa (if k=n then m else k) sz i off
 | c=>c
def rnA(n m:Nat):AV→AV
 | .c x=>.c (rnC n m x)
 | .ag l=>.ag (l.map (rnC n m))
 | .tu l=>.tu (l.map fun x=>(x.1,x.2.map (rnC n m)))
 | .df l=>.df (l.map fun x=>(x.1,x.2.map (rnC n m)))
section
variable {n m:Nat} {e e':Env} (hle:e.le e') (hρ:∀ b,e.ρ n=some b→e'.ρ m=some b) (hτ:∀ b cap,e.ρ n=some b→e.τ n=some (.slice none cap cap)→e'.τ m=some (.slice none cap cap))
include hle hρ hτ
end
end Go.Proofs.Ytaofbminodhcnaa
namespace Go.Proofs.Ytaofbminodhcnaa
open Go.RowKit
def RAs(e:Env):List AV→List Value→Prop
 | [],[]=>True
 | a::l,v::vs=>RA e a v∧RAs e l vs
 | _,_=>False
theorem RAs.length{e:Env}:∀ {l:List AV} {vs:List Value},RAs e l vs→vs.length=l.length
 | [],[],_=>rfl
 | _::_,_::_,⟨_,h⟩=>by simp[RAs.length h]
def JhV(e:Env)(n:Nat):Prop:=∀ i,i=0∨n<i→e.ρ i=none∧e.τ i=none∧∀ m,¬ e.μ i m
def MG(nb nt:Nat)(e:Env)(b:Nat):Prop :=
 (∃ i,0<i∧i≤nb∧e.ρ i=some b)∨(∃ k v,nb<k∧k≤nb+nt∧e.τ k=some v∧¬ Vw v∧v.ownBlock=some b)∨∃ i,0<i∧i≤nb∧e.μ i b
def ctxG(P:Program)(nb nt:Nat)(e:Env):Ctx :=
 ⟨P,e.w,e.w.heap.size,e.S,MG nb nt e,0,[],(List.range nb).map fun i=>(e.ρ (i+1),e.τ (i+1))⟩
def GFin(P:Program)(nb nt:Nat)(e:Env)(bs:List (List C))(ts:List TypeId)(e':Env):Prop :=
 WInv (ctxG P nb nt e) (hpL bs ts) e'∧JhV e' (bs.length+ts.length)∧nb≤bs.length
def JoH(P:Program)(e:Env)(nb nt:Nat):GOut→Ending→World→Prop
 | .ret val bs ts,en,w'=>∃ v e',en=.returned v∧e'.w=w'∧GFin P nb nt e bs ts e'∧RA e' val v
 | .pan v bs ts,en,w'=>∃ e',en=.panicked [{ v:=v,recovered:=false }]∧e'.w=w'∧GFin P nb nt e bs ts e'
def Jx(P:Program)(f:Nat)(g:GI):Prop :=
 ∀ (e:Env) (vs:List Value),WInv (ctxG P g.bs.length g.ts.length e) (hpL g.bs g.ts) e→JhV e (g.bs.length+g.ts.length)→RAs e g.args vs→Calls P f ⟨vs⟩ e.w (JoH P e g.bs.length g.ts.length g.out)
def Jd0:Option Value→FrameMode
 | none=>.returning
 | some v=>.panicking [{ v:=v,recovered:=false }]
def DOk(P:Program)(f:Nat)(d:DI):Prop :=
 ∀ (e:Env) (vs:List Value),WInv (ctxG P d.bs.length d.ts.length e) (hpL d.bs d.ts) e→JhV e (d.bs.length+d.ts.length)→RAs e d.args vs →
  CallsD P f ⟨vs⟩ (Jd0 d.u) e.w (fun en u' w'=>∃ v e',en=.returned v∧settle u'=Jd0 d.u'∧e'.w=w'∧GFin P d.bs.length d.ts.length e d.bs' d.ts' e')
def Ren.back(r:Ren)(nx:Nat)(i:Nat):Nat:=if i=0 then 0 else if i≤r.ps.length∧r.p i≠0 then r.p i else nx+(i-1)
def renC(β:Nat→Nat):C→C
 | .sl sz l k=>.sl sz l (β k)
 | .pt n o=>.pt (β n) o
 | .os n sz off len=>.os (β n) sz off len
 | .pa n sz i o=>.pa (β n) sz i o
 | .clo f ns=>.clo f (ns.map β)
 | .op p n o=>.op p (β n) o
 | .d x=>.d x
 | .pp l=>.pp l
 | .ex x d=>.ex x d
 | .top=>.top
 | .arr sz l=>.arr sz l
 | .nl=>.nl
 | .fs sz l=>.fs sz l
 | .bar l=>.bar l
 | .kc Φ=>.kc Φ
 | .mo n=>.mo (β n)
 | .ob Φ=>.ob Φ
 | .fm Φ=>.fm Φ
theorem Jwi{β:Nat→Nat}{c:C}{Φ:KP}(h:renC β c=.kc Φ):c=.kc Φ:=by cases c <;> first | (cases h; rfl) | cases h
def renT(β:Nat→Nat):List (Bool×List C)→List (Bool×List C)
 | []=>[]
 | (b,l)::m=>(b,l.map (renC β))::renT β m
def renA(β:Nat→Nat):AV→AV
 | .c x=>.c (renC β x)
 | .ag l=>.ag (l.map (renC β))
 | .tu l=>.tu (renT β l)
 | .df l=>.df l
def putB(β:Nat→Nat):Nat→List (List C)→(Nat→Option (List C))→(Nat→Option (List C))
 | _,[],H=>H
 | i,row::l,H=>putB β (i+1) l (upd H (β i) ((Jfs row).map (List.map (renC β))))
def putT(β:Nat→Nat):Nat→List TypeId→(Nat→Option TypeId)→(Nat→Option TypeId)
 | _,[],T=>T
 | i,ty::l,T=>putT β (i+1) l (upd T (β i) (some ty))
def Jd6(qs:List Nat)(T:Nat→Option TypeId)(k:Nat):Option TypeId:=if qs.contains k then none else T k
theorem JmN(T:Nat→Option TypeId):Jd6 [] T=T:=rfl
theorem Jnm{α:Type}(f:α→D)(l:List α)(x:D):List.take (l.length+1) (List.map f l++[x])=List.map f l++[x]:=List.take_of_length_le (by simp)
def Hp.after(h:Hp)(r:Ren)(bs:List (List C))(ts:List TypeId):Hp :=
 ⟨putB (r.back h.nx) 1 bs h.H,putT (r.back h.nx) (bs.length+1) ts (Jd6 r.qs h.T),h.nx+bs.length+ts.length⟩
theorem JgF{β:Nat→Nat}:∀ {l:List (List C)} {i:Nat} {H:Nat→Option (List C)} {m:Nat},(∀ j,i≤j→j<i+l.length→β j≠m)→putB β i l H m=H m
 | [],_,_,_,_=>rfl
 | row::l,i,H,m,h=>by
  rw[putB,JgF (fun j h1 h2=>h j (by omega) (by simp only[List.length_cons]; omega)),JbW _ _ _ _ (Ne.symm (h i (Nat.le_refl _) (by simp)))]
theorem JrJ{β:Nat→Nat}:∀ {l:List (List C)} {i:Nat} {H:Nat→Option (List C)},(∀ j j',i≤j→j<i+l.length→i≤j'→j'<i+l.length→β j=β j'→j=j')→∀ {j:Nat} {row:List C},l[j]? = some row →
  putB β i l H (β (i+j))=(Jfs row).map (List.map (renC β))
 | [],_,_,_,j,row,hj=>by simp at hj
 | r::l,i,H,hinj,j,row,hj=>by
  cases j with
  | zero =>
   simp at hj; subst hj
   show putB β i (r::l) H (β i)=_
   rw[putB,JgF (fun j h1 h2 he=>?_),upd_same]
   have:=hinj j i (by omega) (by simp only[List.length_cons]; omega) (Nat.le_refl _) (by simp) he
   omega
  | succ j =>
   have:=JrJ (β:=β) (l:=l) (i:=i+1) (H:=upd H (β i) ((Jfs r).map (List.map (renC β))))
    (fun j j' h1 h2 h3 h4 he=>hinj j j' (by omega) (by simp only[List.length_cons]; omega) (by omega) (by simp only[List.length_cons]; omega) he) (j:=j) (row:=row) (by simpa using hj)
   rw[putB,← this,show i+(j+1)=i+1+j by omega]
theorem JhP{β:Nat→Nat}:∀ {l:List TypeId} {i:Nat} {T:Nat→Option TypeId} {m:Nat},(∀ j,i≤j→j<i+l.length→β j≠m)→putT β i l T m=T m
 | [],_,_,_,_=>rfl
 | row::l,i,T,m,h=>by
  rw[putT,JhP (fun j h1 h2=>h j (by omega) (by simp only[List.length_cons]; omega)),JbW _ _ _ _ (Ne.symm (h i (Nat.le_refl _) (by simp)))]
theorem JrB{β:Nat→Nat}:∀ {l:List TypeId} {i:Nat} {T:Nat→Option TypeId},(∀ j j',i≤j→j<i+l.length→i≤j'→j'<i+l.length→β j=β j'→j=j')→∀ {j:Nat} {ty:TypeId},l[j]? = some ty →
  putT β i l T (β (i+j))=some ty
 | [],_,_,_,j,ty,hj=>by simp at hj
 | t::l,i,T,hinj,j,ty,hj=>by
  cases j with
  | zero =>
   simp at hj; subst hj
   show putT β i (t::l) T (β i)=_
   rw[putT,JhP (fun j h1 h2 he=>?_),upd_same]
   have:=hinj j i (by omega) (by simp only[List.length_cons]; omega) (Nat.le_refl _) (by simp) he
   omega
  | succ j =>
   have:=JrB (β:=β) (l:=l) (i:=i+1) (T:=upd T (β i) (some t))
    (fun j j' h1 h2 h3 h4 he=>hinj j j' (by omega) (by simp only[List.length_cons]; omega) (by omega) (by simp only[List.length_cons]; omega) he) (j:=j) (ty:=ty) (by simpa using hj)
   rw[putT,← this,show i+(j+1)=i+1+j by omega]
structure Backs (β:Nat→Nat) (e e':Env):Prop where
 keep:Keep e.w e.S e'.w e'.S
 ρ:∀ n b,e.ρ n=some b→e'.ρ (β n)=some b
 τ:∀ n v,e.τ n=some v→e'.τ (β n)=some v
 ne:∀ n,n≠0→β n≠0
theorem Backs.rp{β:Nat→Nat}{e e':Env}(h:Backs β e e'):∀ {ns:List Nat} {vs:List Value},RP e ns vs→RP e' (ns.map β) vs
 | [],[],_=>trivial
 | _::_,_::_,⟨⟨b,h1,h2⟩,h3⟩=>⟨⟨b,h.ρ _ _ h1,h2⟩,Backs.rp h h3⟩
theorem Backs.rc{β:Nat→Nat}{e e':Env}(h:Backs β e e'):∀ {c:C} {v:Value},RC e c v→RC e' (renC β c) v
 | .d _,_,k=>RD.mono h.keep k
 | .sl _ _ k,v,⟨k1,k2⟩=>⟨RD.mono h.keep k1,k2.imp id fun k3=>⟨h.ne _ k3.1,h.τ _ _ k3.2⟩⟩
 | .pt _ _,_,⟨b,k1,k2⟩=>⟨b,h.ρ _ _ k1,k2⟩
 | .pp _,_,⟨b,o,vs,k1,k2,k3⟩=>⟨b,o,vs,k1,RD.mono h.keep k2,fun i x hx=>let ⟨h1,h2⟩:=k3 i x hx; h.keep.1 _ _ _ h1 h2⟩
 | .ex _ _,_,⟨k1,k2⟩=>⟨k1,RD.mono h.keep k2⟩
 | .top,_,_=>trivial
 | .os _ _ _ _,_,k=>k.imp id fun⟨b,cap,k1,k2,k3⟩=>⟨b,cap,h.ρ _ _ k1,h.τ _ _ k2,k3⟩
 | .fs _ _,_,⟨k1,k2⟩=>⟨RD.mono h.keep k1,k2⟩
 | .clo _ _,_,⟨vs,k1,k2⟩=>⟨vs,h.rp k1,k2⟩
 | .op _ _ _,_,k=>⟨h.τ _ _ k.1,k.2.imp id fun⟨k0,b,k1,k2⟩=>⟨k0,b,h.ρ _ _ k1,k2⟩⟩
 | .pa _ _ _ _,_,⟨b,k1,k2⟩=>⟨b,h.ρ _ _ k1,k2⟩
 | .nl,_,⟨b,k1,k2,k3⟩=>⟨b,k1,h.keep.1 _ _ _ k2 k3⟩
 | .arr _ _,_,k=>k.elim
 | .bar _,_,k=>k.elim
 | .kc _,_,_=>trivial
 | .mo _,_,⟨b,k1,k2⟩=>⟨b,h.ρ _ _ k1,k2⟩
 | .ob _,_,k=>k.elim
 | .fm _,_,⟨b,es,c,k1,k2,k3,k4⟩=>⟨b,es,c,k1,(h.keep.2 _ _ _ k2 k4).1,k3,(h.keep.2 _ _ _ k2 k4).2⟩
theorem Backs.rcs{β:Nat→Nat}{e e':Env}(h:Backs β e e'):∀ {l:List C} {vs:List Value},RCs e l vs→RCs e' (l.map (renC β)) vs
 | [],[],_=>trivial
 | _::_,_::_,⟨h1,h2⟩=>⟨h.rc h1,h.rcs h2⟩
theorem Backs.rts{β:Nat→Nat}{e e':Env}(h:Backs β e e'):∀ {l:List (Bool×List C)} {vs:List Value},RTs e l vs→RTs e' (renT β l) vs
 | [],[],_=>trivial
 | (true,_)::_,_::_,⟨⟨vs,k1,k2⟩,h2⟩=>⟨⟨vs,k1,h.rcs k2⟩,h.rts h2⟩
 | (false,_)::_,_::_,⟨⟨c,k1,k2⟩,h2⟩=>by
  subst k1
  exact⟨⟨_,rfl,h.rc k2⟩,h.rts h2⟩
theorem Backs.ra{β:Nat→Nat}{e e':Env}(h:Backs β e e'):∀ {a:AV} {v:Value},RA e a v→RA e' (renA β a) v
 | .c _,_,k=>h.rc k
 | .ag _,_,⟨vs,k1,k2⟩=>⟨vs,k1,h.rcs k2⟩
 | .tu _,_,⟨vs,k1,k2⟩=>⟨vs,k1,h.rts k2⟩
 | .df _,_,k=>k.elim
theorem Backs.rb{β:Nat→Nat}{e e':Env}(h:Backs β e e'){n:Nat}{row:List C}{vs:List Value}(k:RB e n row vs):RB e' (β n) (row.map (renC β)) vs:=by
 unfold RB at k
 split at k
 ·obtain⟨us,ts,zs,cap,k1,k2,k3,k4,k5,k6,k7,k8,k9⟩:=k
  exact⟨us,ts,zs,cap,k1,RD.mono h.keep k2,k3,h.rcs k4,k5.imp (fun h=>by rw[h]; rfl) id,k6,k7,k8,h.τ _ _ k9⟩
 ·exact .of (h.rcs k)
theorem Jvp{β:Nat→Nat}{row:List C}:rowP (row.map (renC β))=rowP row:=by
 cases row with
 | nil=>rfl
 | cons c l=>cases c <;> rfl
theorem Backs.ro{β:Nat→Nat}{e e':Env}(h:Backs β e e'){n:Nat}{row:List C}{ob:Obj}(k:RO e n row ob):RO e' (β n) (row.map (renC β)) ob:=by
 unfold RO at k
 split at k
 ·obtain⟨rfl,cs,fz,zs,k1,k2,k3,k4,k5⟩:=k
  exact⟨rfl,cs,fz,zs,k1,k2,k3,k4,h.τ _ _ k5⟩
 ·obtain⟨rfl,k⟩:=k
  exact⟨rfl,k⟩
 ·obtain⟨cs,ty,rfl,k,k3⟩:=k
  exact RO.of (h.rb k) (fun hp=>h.τ _ _ (k3 (by rwa [Jvp]at hp)))
structure Hands (Γ:Ctx) (h:Hp) (e:Env) (r:Ren) (bs:List (List C)) (ts:List TypeId):Prop where
 inv:WInv Γ h e
 lb:bs.length=r.ps.length
 lt:ts.length=r.qs.length
 op:once r.ps=true
 oq:once r.qs=true
 bwk:BWk r h 1 bs
 twk:TWk r h (r.ps.length+1) ts
 live:∀ row∈bs,row≠[]
theorem WInv.noRoot{Γ:Ctx}{h:Hp}{e:Env}(hw:WInv Γ h e):WInv { Γ with root:=[] } h e :=
 ⟨hw.g0,hw.os,hw.tape,hw.output,hw.grown,hw.hB,hw.old,hw.sdom,hw.s0,hw.s0B,hw.keep,hw.box,hw.inj,hw.tok,hw.tokinj,hw.fresh,hw.nx0,⟨hw.nx0,fun i x hx=>by simp at hx⟩,
 ⟨fun n m hn hm=>let k:=hw.ext.mu n m hn hm; ⟨k.lt,k.s,k.own,k.box,k.tok,k.one,k.ob⟩,hw.ext.kc⟩⟩
theorem Hands.ren{Γ:Ctx}{h:Hp}{e:Env}{r:Ren}{bs:List (List C)}{ts:List TypeId}(k:Hands Γ h e r bs ts):WInv { Γ with root:=[] } (hpL bs ts) (renE r e) :=
 JlV (rt:=0) r k.lb k.lt k.op k.oq k.bwk k.twk rfl rfl k.inv.noRoot
theorem JrG{bs:List (List C)}{n:Nat}{row:List C}(h:hpH bs n=some row):0<n∧n≤bs.length∧bs[n-1]? = some row∧row≠[]:=by
 unfold hpH at h
 split at h
 ·cases h
 ·rename_i h0
  obtain⟨x,h1,h2⟩:=Option.bind_eq_some_iff.1 h
  obtain⟨rfl,h3⟩:=JhS h2
  have:=(List.getElem?_eq_some_iff.1 h1).1
  exact⟨by omega,by omega,h1,h3⟩
theorem JxC{bs:List (List C)}{n:Nat}{row:List C}(h0:0<n)(h:bs[n-1]? = some row)(h1:row≠[]):hpH bs n=some row:=by
 unfold hpH
 rw[if_neg (by omega),h]
 cases row with
 | nil=>exact absurd rfl h1
 | cons c l=>rfl
theorem JpT{bs:List (List C)}(hl:∀ row∈bs,row≠[]){n:Nat}(h0:0<n)(h1:n≤bs.length):∃ row,hpH bs n=some row:=by
 have hlt:n-1<bs.length:=by omega
 refine⟨bs[n-1],?_⟩
 unfold hpH
 rw[if_neg (by omega),List.getElem?_eq_getElem hlt]
 have:=hl _ (List.getElem_mem hlt)
 cases hr:bs[n-1] with
 | nil=>exact absurd hr this
 | cons c l=>rfl
theorem Jvo{nb:Nat}{ts:List TypeId}{n:Nat}(h0:nb<n)(h1:n≤nb+ts.length):∃ ty,hpT nb ts n=some ty:=by
 have hlt:n-nb-1<ts.length:=by omega
 refine⟨ts[n-nb-1],?_⟩
 unfold hpT
 rw[if_neg (by omega),List.getElem?_eq_getElem hlt]
theorem Jw2{nb:Nat}{ts:List TypeId}{n:Nat}{ty:TypeId}(h:hpT nb ts n=some ty):nb<n∧n≤nb+ts.length∧ts[n-nb-1]? = some ty:=by
 unfold hpT at h
 split at h
 ·cases h
 ·have:=(List.getElem?_eq_some_iff.1 h).1
  exact⟨by omega,by omega,h⟩
section
variable {Γ:Ctx} {h:Hp} {e:Env} {r:Ren} {bs0:List (List C)} {ts0:List TypeId}
theorem Hands.boxOf(k:Hands Γ h e r bs0 ts0){i:Nat}(h0:0<i)(hi:i≤r.ps.length):r.p i=0∨(r.p i≠0∧h.H (r.p i)≠none):=by
 have hlt:i-1<bs0.length:=by rw[k.lb]; omega
 have:=k.bwk.at (i-1) bs0[i-1] (List.getElem?_eq_getElem hlt) (k.live _ (List.getElem_mem _))
 rw[show 1+(i-1)=i by omega]at this
 rcases this with⟨h1,_⟩|⟨h1,row0,h2,_⟩
 ·exact .inl h1
 ·exact .inr ⟨h1,by rw[h2]; simp⟩
theorem Hands.p_lt(k:Hands Γ h e r bs0 ts0){i:Nat}(h0:0<i)(hi:i≤r.ps.length)(hp:r.p i≠0):r.p i<h.nx:=by
 rcases k.boxOf h0 hi with h1 | ⟨_,h1⟩
 ·exact absurd h1 hp
 ·rcases Nat.lt_or_ge (r.p i) h.nx with h2 | h2
  ·exact h2
  ·exact absurd (k.inv.fresh _ h2).1 h1
theorem Hands.tokOf(k:Hands Γ h e r bs0 ts0){j:Nat}(h0:r.ps.length<j)(hj:j≤r.ps.length+r.qs.length):r.q j=0∨h.T (r.q j)≠none:=by
 have hlt:j-r.ps.length-1<ts0.length:=by rw[k.lt]; omega
 have:=k.twk.at (j-r.ps.length-1) ts0[j-r.ps.length-1] (List.getElem?_eq_getElem hlt)
 rw[show r.ps.length+1+(j-r.ps.length-1)=j by omega]at this
 exact this.imp id fun h=>by rw[h]; simp
theorem Hands.own(k:Hands Γ h e r bs0 ts0){b:Nat}(hb:MG bs0.length ts0.length (renE r e) b):(Γ.B≤b∨Γ.M b)∧(∀ n,h.H n≠none→e.ρ n=some b→∃ i,0<i∧i≤r.ps.length∧r.p i≠0∧r.p i=n) ∧
  (∀ n v,h.T n≠none→e.τ n=some v→¬ Vw v→v.ownBlock=some b→r.qs.contains n=true)∧(∀ n,h.H n≠none→e.μ n b→∃ i,0<i∧i≤r.ps.length∧r.p i≠0∧r.p i=n):=by
 rcases hb with⟨i,h0,hi,hρ⟩|⟨j,v,hj0,hj,hτ,hf,hbk⟩|⟨i,h0,hi,hm⟩
 ·rw[k.lb]at hi
  rcases k.boxOf h0 hi with hz | ⟨hz,hH⟩
  ·rw[Jl3 hz]at hρ; cases hρ
  ·rw[JbU h0 hi hz]at hρ
   obtain⟨row,hr⟩:=Option.ne_none_iff_exists'.1 hH
   obtain⟨ob,_,_,_,q⟩:=k.inv.boxAny hρ row hr
   refine⟨q,fun n hn hb'=>⟨i,h0,hi,hz,k.inv.inj _ _ b hH hn hρ hb'⟩,fun n u hn hu hfu hbu=>?_,fun n hn hm=>((k.inv.ext.mu n b hn hm).box _ hH hρ).elim⟩
   obtain⟨ty,hT⟩:=Option.ne_none_iff_exists'.1 hn
   obtain⟨_,u',q1,q2⟩:=k.inv.tok n ty hT
   rw[hu]at q1; cases q1
   obtain⟨_,_,_,_,_,_,q3⟩:=q2.resolve_left hfu
   exact absurd hρ (q3 b hbu _ hH)
 ·rw[k.lb,k.lt]at hj
  rw[k.lb]at hj0
  have hq:r.q j≠0:=fun hz=>by
   rw[JiK hj0 hj,if_pos hz]at hτ
   cases hτ
   exact hf ⟨_,_,rfl⟩
  rw[JiK hj0 hj,if_neg hq]at hτ
  have hT:=(k.tokOf hj0 hj).resolve_left hq
  obtain⟨ty,hT'⟩:=Option.ne_none_iff_exists'.1 hT
  obtain⟨_,u',q1,q2⟩:=k.inv.tok _ ty hT'
  rw[hτ]at q1; cases q1
  obtain⟨_,_,_,_,q3,_,q4⟩:=q2.resolve_left hf
  refine⟨q3.2 b hbk,fun n hn hb'=>absurd hb' (q4 b hbk n hn),fun n u hn hu hfu hbu=>?_,fun n hn hm=>((k.inv.ext.mu n b hn hm).tok _ v hT hτ hf hbk).elim⟩
  have:=k.inv.tokinj n (r.q j) u v b hn hT hu hτ hbu hbk hfu hf
  subst this
  have hlt:j-r.ps.length-1<r.qs.length:=by omega
  have:r.q j=r.qs[j-r.ps.length-1]:=by simp[Ren.q,hlt]
  rw[this]
  simp
 ·rw[k.lb]at hi
  have hz:=hm.1.2
  have hH:=((k.boxOf h0 hi).resolve_left hz).2
  have q:=k.inv.ext.mu _ b hH hm.2
  exact⟨q.own,fun n hn hb'=>(q.box n hn hb').elim,fun n u hn hu hfu hbu=>(q.tok n u hn hu hfu hbu).elim,fun n hn hm'=>⟨i,h0,hi,hz,(q.one n hn hm').symm⟩⟩
theorem Hands.enter(k:Hands Γ h e r bs0 ts0):WInv (ctxG Γ.P bs0.length ts0.length (renE r e)) (hpL bs0 ts0) (renE r e)∧JhV (renE r e) (bs0.length+ts0.length):=by
 have hw:=k.ren
 refine⟨?_,fun i hi=>?_⟩
 ·constructor
  ·refine⟨hw.gw,fun q hq=>?_⟩
   obtain⟨cs,ty,g1,g2,g3,g4⟩:=hw.gw q hq
   refine⟨(Array.getElem?_eq_some_iff.1 g1).1,fun hM=>?_⟩
   rcases hM with⟨i,h1,h2,h3⟩|⟨k1,v,h1,h2,h3,h4,h5⟩|⟨i,h1,h2,h3⟩
   ·obtain⟨row,hr⟩:=JpT k.live h1 h2
    obtain⟨ob,o1,_,o3,_⟩:=hw.boxAny h3 row hr
    rw[g1]at o1; cases o1
    exact g4 0 g3 (o3 0 g3)
   ·obtain⟨ty1,ht⟩:=Jvo (ts:=ts0) h1 h2
    obtain⟨_,v1,q1,q2⟩:=hw.tok k1 ty1 ht
    rw[h3]at q1; cases q1
    obtain⟨sz,n,xs,z1,z2,z3,_⟩:=q2.resolve_left h4
    rcases z2.1.2 with⟨rfl,_⟩|⟨g,cap,cur,rfl,_,r1,r2,_,r3,_⟩
    ·cases h5
    ·simp only[Value.ownBlock,Option.some.injEq]at h5
     subst h5
     rw[g1]at r1; cases r1
     have hlt:n<cap:=by
      rcases Nat.lt_or_ge n cap with h | h
      ·exact h
      ·exact absurd ⟨_,n,by rw[Nat.le_antisymm h r2]⟩ h4
     have hlt2:n * sz<cs.size:=by rw[r3]; exact Nat.mul_lt_mul_of_pos_right hlt z1.1
     exact g4 _ hlt2 (z3 _ _ rfl (Nat.le_refl _) (by rw[Jgr g1 hlt2]; rfl))
   ·obtain⟨row,hr⟩:=JpT k.live h1 h2
    exact g4 0 g3 ((hw.ext.mu i q.1 (by show hpH bs0 i≠none; rw[hr]; simp) h3).s 0 (.inl ⟨_,Jgr g1 g3⟩))
  ·rfl
  ·rfl
  ·rfl
  ·exact Nat.le_refl _
  ·exact Nat.le_refl _
  ·intro b _ _; rfl
  ·exact hw.sdom
  ·intro b o h0 _; exact h0
  ·exact hw.sdom
  ·exact Keep.refl _ _
  ·intro n row hn
   rcases hw.box n row hn with hz | ⟨b,ob,q1,q2,q3,q4,_⟩
   ·exact .inl hz
   ·obtain⟨p1,p2,_⟩:=JrG hn
    exact .inr ⟨b,ob,q1,q2,q3,q4,.inr (.inl ⟨n,p1,p2,q1⟩)⟩
  ·exact hw.inj
  ·intro n ty hn
   obtain⟨h0,v,q1,q2⟩:=hw.tok n ty hn
   refine⟨h0,v,q1,?_⟩
   by_cases hf:Vw v
   ·exact .inl hf
   ·obtain⟨sz,m,xs,z1,z2,z3⟩:=q2.resolve_left hf
    obtain⟨p1,p2,_⟩:=Jw2 hn
    exact .inr ⟨sz,m,xs,z1,⟨z2.1,fun b hb=>.inr (.inr (.inl ⟨n,v,p1,p2,q1,hf,hb⟩))⟩,z3⟩
  ·exact hw.tokinj
  ·exact hw.fresh
  ·exact hw.nx0
  ·refine⟨by simp[ctxG,hpL]; omega,fun i x hx=>?_⟩
   simp only[ctxG,List.getElem?_map,Option.map_eq_some_iff]at hx
   obtain⟨j,hj,rfl⟩:=hx
   have:=List.getElem?_eq_some_iff.1 hj
   obtain⟨_,hj⟩:=this
   simp at hj
   subst hj
   exact⟨rfl,rfl⟩
  ·refine⟨fun n m hn hm=>?_,hw.ext.kc⟩
   have q:=hw.ext.mu n m hn hm
   obtain⟨row,hr⟩:=Option.ne_none_iff_exists'.1 hn
   obtain⟨p1,p2,_⟩:=JrG hr
   exact⟨q.lt,q.s,.inr (.inr (.inr ⟨n,p1,p2,hm⟩)),q.box,q.tok,q.one,q.ob⟩
 ·obtain⟨h1,h2⟩:=(hw.fresh (bs0.length+ts0.length+1) (Nat.le_refl _)).2.2
  rcases hi with rfl | hi
  ·refine⟨?_,?_,fun m hm=>?_⟩
   ·simp[renE]
   ·simp[renE]
   ·simp[renE]at hm
  ·exact(hw.fresh i (by simp[hpL]; omega)).2.2
variable {bs:List (List C)} {ts:List TypeId} {e':Env}
def Vh(r:Ren)(h:Hp)(e e':Env):Env:=⟨e'.w,e'.S,fun n=>if n<h.nx then e.ρ n else e'.ρ (n-h.nx+1),fun n=>if n<h.nx then e.τ n else e'.τ (n-h.nx+1),
 fun n m=>(∃ j,0<j∧r.back h.nx j=n∧e'.μ j m)∨((∀ j,0<j→r.back h.nx j≠n)∧e.μ n m)⟩
theorem Hands.root(k:Hands Γ h e r bs0 ts0)(hw':WInv (ctxG Γ.P bs0.length ts0.length (renE r e)) (hpL bs ts) e'){i:Nat}(h0:0<i)(hi:i≤r.ps.length):
  e'.ρ i=(renE r e).ρ i∧e'.τ i=(renE r e).τ i:=by
 have hx:(ctxG Γ.P bs0.length ts0.length (renE r e)).root[i-1]? = some ((renE r e).ρ i,(renE r e).τ i):=by
  simp only[ctxG,List.getElem?_map]
  have:(List.range bs0.length)[i-1]? = some (i-1):=by
   rw[List.getElem?_range (by rw[k.lb]; omega)]
  rw[this,Option.map_some,show i-1+1=i by omega]
 have:=hw'.rt.2 _ _ hx
 rwa [show i-1+1=i by omega]at this
theorem Jch{nx i:Nat}(h0:0<i)(hi:i≤r.ps.length)(hp:r.p i≠0):r.back nx i=r.p i:=by
 unfold Ren.back
 rw[if_neg (by omega),if_pos ⟨hi,hp⟩]
theorem JcM{nx i:Nat}(h0:0<i)(hi:¬ (i≤r.ps.length∧r.p i≠0)):r.back nx i=nx+(i-1):=by
 unfold Ren.back
 rw[if_neg (by omega),if_neg hi]
theorem Hands.back_inj(k:Hands Γ h e r bs0 ts0){i j:Nat}(hi:0<i)(hj:0<j)(he:r.back h.nx i=r.back h.nx j):i=j:=by
 by_cases h1:i≤r.ps.length∧r.p i≠0 <;> by_cases h2:j≤r.ps.length∧r.p j≠0
 ·rw[Jch hi h1.1 h1.2,Jch hj h2.1 h2.2]at he
  have:=JgE k.op (i:=i-1) (j:=j-1) he h1.2
  omega
 ·rw[Jch hi h1.1 h1.2,JcM hj h2]at he
  have:=k.p_lt hi h1.1 h1.2
  omega
 ·rw[JcM hi h1,Jch hj h2.1 h2.2]at he
  have:=k.p_lt hj h2.1 h2.2
  omega
 ·rw[JcM hi h1,JcM hj h2]at he
  omega
theorem Hands.backs(k:Hands Γ h e r bs0 ts0)(hw':WInv (ctxG Γ.P bs0.length ts0.length (renE r e)) (hpL bs ts) e'){i:Nat}(h0:0<i):
  (Vh r h e e').ρ (r.back h.nx i)=e'.ρ i∧(Vh r h e e').τ (r.back h.nx i)=e'.τ i:=by
 by_cases h1:i≤r.ps.length∧r.p i≠0
 ·rw[Jch h0 h1.1 h1.2]
  have hlt:=k.p_lt h0 h1.1 h1.2
  obtain⟨q1,q2⟩:=k.root hw' h0 h1.1
  rw[q1,q2,JbU h0 h1.1 h1.2,Jfn h0 h1.1 h1.2]
  simp only[Vh,hlt,if_true,and_self]
 ·rw[JcM h0 h1]
  have:¬ (h.nx+(i-1)<h.nx):=by omega
  simp only[Vh,this,if_false]
  rw[show h.nx+(i-1)-h.nx+1=i by omega]
  exact⟨rfl,rfl⟩
theorem Hands.le(k:Hands Γ h e r bs0 ts0)(hw':WInv (ctxG Γ.P bs0.length ts0.length (renE r e)) (hpL bs ts) e'):e.le (Vh r h e e'):=by
 refine⟨hw'.keep,fun n b hn=>?_,fun n b hn=>?_⟩
 ·have:n<h.nx:=by
   rcases Nat.lt_or_ge n h.nx with h2 | h2
   ·exact h2
   ·rw[(k.inv.fresh _ h2).2.2.1]at hn; cases hn
  simp[Vh,this,hn]
 ·have:n<h.nx:=by
   rcases Nat.lt_or_ge n h.nx with h2 | h2
   ·exact h2
   ·rw[(k.inv.fresh _ h2).2.2.2.1]at hn; cases hn
  simp[Vh,this,hn]
theorem Hands.toBacks(k:Hands Γ h e r bs0 ts0)(hw':WInv (ctxG Γ.P bs0.length ts0.length (renE r e)) (hpL bs ts) e')(hc:JhV e' (bs.length+ts.length)):Backs (r.back h.nx) e' (Vh r h e e'):=by
 refine⟨Keep.refl _ _,fun n b hn=>?_,fun n b hn=>?_,fun n hn hz=>?_⟩
 ·have h0:0<n:=by
   rcases Nat.eq_zero_or_pos n with h0 | h0
   ·rw[(hc n (.inl h0)).1]at hn; cases hn
   ·exact h0
  rw[(k.backs hw' h0).1]; exact hn
 ·have h0:0<n:=by
   rcases Nat.eq_zero_or_pos n with h0 | h0
   ·rw[(hc n (.inl h0)).2.1]at hn; cases hn
   ·exact h0
  rw[(k.backs hw' h0).2]; exact hn
 ·have h0:0<n:=by omega
  by_cases h1:n≤r.ps.length∧r.p n≠0
  ·rw[Jch h0 h1.1 h1.2]at hz; exact h1.2 hz
  ·rw[JcM h0 h1]at hz
   have:=k.inv.nx0
   omega
theorem Hands.leave(k:Hands Γ h e r bs0 ts0)(hw':WInv (ctxG Γ.P bs0.length ts0.length (renE r e)) (hpL bs ts) e')(hc:JhV e' (bs.length+ts.length))(hn:bs0.length≤bs.length):
  WInv Γ (h.after r bs ts) (Vh r h e e'):=by
 have hle:=k.le hw'
 have hB:=k.toBacks hw' hc
 have hw:=k.inv
 have hsz:e.w.heap.size≤e'.w.heap.size:=hw'.grown
 have βlt:∀ j,0<j→j≤bs.length+ts.length→r.back h.nx j<h.nx+bs.length+ts.length:=fun j h0 hj=>by
  by_cases h1:j≤r.ps.length∧r.p j≠0
  ·rw[Jch h0 h1.1 h1.2]; have:=k.p_lt h0 h1.1 h1.2; omega
  ·rw[JcM h0 h1]; omega
 have injOn:∀ a c:Nat,0<a→∀ j j',a≤j→j<a+c→a≤j'→j'<a+c→r.back h.nx j=r.back h.nx j'→j=j':=fun a c ha j j' h1 _ h2 _ he=>k.back_inj (by omega) (by omega) he
 -- boxes,one way or the other
 have Hin:∀ n row,(h.after r bs ts).H n=some row→(∃ j row',0<j∧j≤bs.length∧r.back h.nx j=n∧hpH bs j=some row'∧row=row'.map (renC (r.back h.nx))) ∨
   ((∀ j,0<j→j≤bs.length→r.back h.nx j≠n)∧h.H n=some row):=fun n row hr=>by
  by_cases hx:∃ j,0<j∧j≤bs.length∧r.back h.nx j=n
  ·obtain⟨j,h0,hj,rfl⟩:=hx
   have hlt:j-1<bs.length:=by omega
   have:=JrJ (β:=r.back h.nx) (l:=bs) (i:=1) (H:=h.H) (injOn 1 bs.length (by omega)) (j:=j-1) (row:=bs[j-1]) (List.getElem?_eq_getElem hlt)
   rw[show 1+(j-1)=j by omega]at this
   have hr:putB (r.back h.nx) 1 bs h.H (r.back h.nx j)=some row:=hr
   rw[this]at hr
   obtain⟨row',h1,h2⟩:=Option.map_eq_some_iff.1 hr
   obtain⟨rfl,h3⟩:=JhS h1
   exact .inl ⟨j,_,h0,hj,rfl,JxC h0 (List.getElem?_eq_getElem hlt) h3,h2.symm⟩
  ·have hx':∀ j,0<j→j≤bs.length→r.back h.nx j≠n:=fun j h0 hj he=>hx ⟨j,h0,hj,he⟩
   have:putB (r.back h.nx) 1 bs h.H n=h.H n:=JgF fun j h1 h2=>hx' j (by omega) (by omega)
   exact .inr ⟨hx',by rw[← this]; exact hr⟩
 have Tin:∀ n ty,(h.after r bs ts).T n=some ty→(∃ j,0<j∧j≤bs.length+ts.length∧r.back h.nx j=n∧hpT bs.length ts j=some ty) ∨
   ((∀ j,bs.length<j→j≤bs.length+ts.length→r.back h.nx j≠n)∧h.T n=some ty∧r.qs.contains n=false):=fun n ty hr=>by
  by_cases hx:∃ j,bs.length<j∧j≤bs.length+ts.length∧r.back h.nx j=n
  ·obtain⟨j,h0,hj,rfl⟩:=hx
   have hlt:j-bs.length-1<ts.length:=by omega
   have:=JrB (β:=r.back h.nx) (l:=ts) (i:=bs.length+1) (T:=Jd6 r.qs h.T) (injOn (bs.length+1) ts.length (by omega)) (j:=j-bs.length-1) (ty:=ts[j-bs.length-1]) (List.getElem?_eq_getElem hlt)
   rw[show bs.length+1+(j-bs.length-1)=j by omega]at this
   have hr:putT (r.back h.nx) (bs.length+1) ts (Jd6 r.qs h.T) (r.back h.nx j)=some ty:=hr
   rw[this]at hr
   refine .inl ⟨j,by omega,hj,rfl,?_⟩
   unfold hpT
   rw[if_neg (by omega),List.getElem?_eq_getElem hlt]; exact hr
  ·have hx':∀ j,bs.length<j→j≤bs.length+ts.length→r.back h.nx j≠n:=fun j h0 hj he=>hx ⟨j,h0,hj,he⟩
   have:putT (r.back h.nx) (bs.length+1) ts (Jd6 r.qs h.T) n=Jd6 r.qs h.T n:=JhP fun j h1 h2=>hx' j (by omega) (by omega)
   have hr:putT (r.back h.nx) (bs.length+1) ts (Jd6 r.qs h.T) n=some ty:=hr
   rw[this]at hr
   unfold Jd6 at hr
   split at hr
   ·cases hr
   ·rename_i hq
    exact .inr ⟨hx',hr,by simpa using hq⟩
 -- an old box that was not handed over
 have oldBox:∀ n row b,(∀ j,0<j→j≤bs.length→r.back h.nx j≠n)→h.H n=some row→e.ρ n=some b→¬ MG bs0.length ts0.length (renE r e) b∧b<e.w.heap.size∧(Vh r h e e').ρ n=some b:=fun n row b hx hr hρ=>by
  refine⟨fun hM=>?_,?_,hle.names n b hρ⟩
  ·obtain⟨i,h0,hi,hp,rfl⟩:=(k.own hM).2.1 n (by rw[hr]; simp) hρ
   exact hx i h0 (by have:=k.lb; omega) (Jch h0 hi hp)
  ·obtain⟨ob,q,_⟩:=hw.boxAny hρ row hr
   exact(Array.getElem?_eq_some_iff.1 q).1
 have newBox:∀ j row b,0<j→hpH bs j=some row→e'.ρ j=some b→e.w.heap.size≤b∨MG bs0.length ts0.length (renE r e) b:=fun j row b h0 hr hρ=>by
  obtain⟨ob,_,_,_,q⟩:=hw'.boxAny hρ row hr
  exact q
 have notOld:∀ b,¬ MG bs0.length ts0.length (renE r e) b→b<e.w.heap.size→e'.w.heap[b]? = e.w.heap[b]? := fun b h1 h2=>hw'.old b h2 h1
 constructor
 ·exact hw.g0
 ·exact hw'.os.trans hw.os
 ·exact hw'.tape.trans hw.tape
 ·exact hw'.output.trans hw.output
 ·exact Nat.le_trans hw.grown hsz
 ·exact Nat.le_trans hw.hB hsz
 ·intro b hb hm
  refine(notOld b (fun hM=>?_) (Nat.lt_of_lt_of_le hb hw.hB)).trans (hw.old b hb hm)
  rcases (k.own hM).1 with h1 | h1
  ·omega
  ·exact hm h1
 ·exact hw'.sdom
 ·intro b o h0 hm
  have hb:=hw.s0B b o h0
  refine hw'.s0 b o (hw.s0 b o h0 hm) fun hM=>?_
  rcases (k.own hM).1 with h1 | h1
  ·omega
  ·exact hm h1
 ·exact hw.s0B
 ·exact hw.keep.trans hle.keep
 ·intro n row hr
  rcases Hin n row hr with⟨j,row',h0,hj,rfl,hr',rfl⟩|⟨hx,hr'⟩
  ·rcases hw'.box j row' hr' with⟨z1,z2⟩|⟨b,ob,q1,q2,q3,q4,q5⟩
   ·refine .inl ⟨by rw[(k.backs hw' h0).1]; exact z1,?_⟩
    rcases z2 with⟨sz,rfl,hs⟩ | rfl
    ·exact .inl ⟨sz,rfl,hs⟩
    ·exact .inr rfl
   ·refine .inr ⟨b,ob,by rw[(k.backs hw' h0).1]; exact q1,q2,hB.ro q3,q4,?_⟩
    rcases q5 with q5 | q5
    ·exact .inl (Nat.le_trans hw.hB q5)
    ·exact(k.own q5).1
  ·have hlt:n<h.nx:=by
    rcases Nat.lt_or_ge n h.nx with h2 | h2
    ·exact h2
    ·rw[(hw.fresh _ h2).1]at hr'; cases hr'
   rcases hw.box n row hr' with⟨z1,z2⟩|⟨b,ob,q1,q2,q3,q4,q5⟩
   ·exact .inl ⟨by simp[Vh,hlt,z1],z2⟩
   ·obtain⟨hM,hb,hρ⟩:=oldBox n row b hx hr' q1
    exact .inr ⟨b,ob,hρ,(notOld b hM hb).trans q2,RO.mono hle q3,fun o ho=>hw'.s0 b o (q4 o ho) hM,q5⟩
 ·intro n m b hn hm hnb hmb
  obtain⟨row,hr⟩:=Option.ne_none_iff_exists'.1 hn
  obtain⟨row2,hr2⟩:=Option.ne_none_iff_exists'.1 hm
  have mixed:∀ n m row j row',(∀ j,0<j→j≤bs.length→r.back h.nx j≠n)→h.H n=some row→(Vh r h e e').ρ n=some b→0<j→hpH bs j=some row'→r.back h.nx j=m→(Vh r h e e').ρ m=some b→False:=by
   rintro n m row j row' hx hr hnb h0 hr' rfl hmb
   have hlt:n<h.nx:=by
    rcases Nat.lt_or_ge n h.nx with h2 | h2
    ·exact h2
    ·rw[(hw.fresh _ h2).1]at hr; cases hr
   have hρ:e.ρ n=some b:=by simpa [Vh,hlt] using hnb
   obtain⟨hM,hb,_⟩:=oldBox n row b hx hr hρ
   rw[(k.backs hw' h0).1]at hmb
   rcases newBox j row' b h0 hr' hmb with h1 | h1
   ·omega
   ·exact hM h1
  rcases Hin n row hr with⟨j,row',h0,hj,rfl,hr',_⟩|⟨hx,hr'⟩ <;> rcases Hin m row2 hr2 with⟨j2,row2',h02,hj2,rfl,hr2',_⟩|⟨hx2,hr2'⟩
  ·rw[(k.backs hw' h0).1]at hnb
   rw[(k.backs hw' h02).1]at hmb
   rw[hw'.inj j j2 b (by show hpH bs j≠none; rw[hr']; simp) (by show hpH bs j2≠none; rw[hr2']; simp) hnb hmb]
  ·exact(mixed _ _ _ j row' hx2 hr2' hmb h0 hr' rfl hnb).elim
  ·exact(mixed _ _ _ j2 row2' hx hr' hnb h02 hr2' rfl hmb).elim
  ·have h1:n<h.nx:=by
    rcases Nat.lt_or_ge n h.nx with h2 | h2
    ·exact h2
    ·rw[(hw.fresh _ h2).1]at hr'; cases hr'
   have h2:m<h.nx:=by
    rcases Nat.lt_or_ge m h.nx with h2 | h2
    ·exact h2
    ·rw[(hw.fresh _ h2).1]at hr2'; cases hr2'
   exact hw.inj n m b (by rw[hr']; simp) (by rw[hr2']; simp) (by simpa [Vh,h1] using hnb) (by simpa [Vh,h2] using hmb)
 ·intro n ty hr
  rcases Tin n ty hr with⟨j,h0,hj,rfl,hr'⟩|⟨hx,hr',hq⟩
  ·obtain⟨_,v,q1,q2⟩:=hw'.tok j ty hr'
   refine⟨?_,v,by rw[(k.backs hw' h0).2]; exact q1,q2.imp id ?_⟩
   ·exact hB.ne j (by omega)
   rintro ⟨sz,m,xs,z1,z2,z3,z4⟩
   refine⟨sz,m,xs,z1,⟨z2.1,fun b hb=>?_⟩,z3,fun b hb i hi hρ=>?_⟩
   ·rcases z2.2 b hb with h1 | h1
    ·exact .inl (Nat.le_trans hw.hB h1)
    ·exact(k.own h1).1
   ·obtain⟨row,hri⟩:=Option.ne_none_iff_exists'.1 hi
    rcases Hin i row hri with⟨j2,row',h02,hj2,rfl,hr2',_⟩|⟨hx2,hr2'⟩
    ·rw[(k.backs hw' h02).1]at hρ
     exact z4 b hb j2 (by show hpH bs j2≠none; rw[hr2']; simp) hρ
    ·have hlt:i<h.nx:=by
      rcases Nat.lt_or_ge i h.nx with h2 | h2
      ·exact h2
      ·rw[(hw.fresh _ h2).1]at hr2'; cases hr2'
     obtain⟨hM,hb',_⟩:=oldBox i row b hx2 hr2' (by simpa [Vh,hlt] using hρ)
     rcases z2.2 b hb with h1 | h1
     ·have h1:e.w.heap.size≤b:=h1
      omega
     ·exact hM h1
  ·have hlt:n<h.nx:=by
    rcases Nat.lt_or_ge n h.nx with h2 | h2
    ·exact h2
    ·rw[(hw.fresh _ h2).2.1]at hr'; cases hr'
   obtain⟨h0,v,q1,q2⟩:=hw.tok n ty hr'
   refine⟨h0,v,by simp[Vh,hlt,q1],?_⟩
   by_cases hf:Vw v
   ·exact .inl hf
   obtain⟨sz,m,xs,z1,z2,z3,z4⟩:=q2.resolve_left hf
   have hM:∀ b,v.ownBlock=some b→¬ MG bs0.length ts0.length (renE r e) b:=fun b hb hM=>by
    have:=(k.own hM).2.2.1 n v (by rw[hr']; simp) q1 hf hb
    rw[hq]at this; cases this
   have hblk:∀ b,v.ownBlock=some b→e'.w.heap[b]? = e.w.heap[b]? := fun b hb=>notOld b (hM b hb) (z2.1.lt b hb).2
   refine .inr ⟨sz,m,xs,z1,⟨Jaj z2.1 hblk,z2.2⟩,fun b o hb ho hcl=>?_,fun b hb i hi hρ=>?_⟩
   ·have hce:e'.w.cell? ⟨b,o,none⟩=e.w.cell? ⟨b,o,none⟩:=World.cell?_of_block (hblk b hb)
    exact hw'.s0 b o (z3 b o hb ho (by rw[← hce]; exact hcl)) (hM b hb)
   ·obtain⟨row,hri⟩:=Option.ne_none_iff_exists'.1 hi
    rcases Hin i row hri with⟨j2,row',h02,hj2,rfl,hr2',_⟩|⟨hx2,hr2'⟩
    ·rw[(k.backs hw' h02).1]at hρ
     rcases newBox j2 row' b h02 hr2' hρ with h1 | h1
     ·have:=(z2.1.lt b hb).2; omega
     ·exact hM b hb h1
    ·have hlt:i<h.nx:=by
      rcases Nat.lt_or_ge i h.nx with h2 | h2
      ·exact h2
      ·rw[(hw.fresh _ h2).1]at hr2'; cases hr2'
     exact z4 b hb i (by rw[hr2']; simp) (by simpa [Vh,hlt] using hρ)
 ·intro n m v u b hn hm hv hu hvb hub hfv hfu
  obtain⟨ty,hr⟩:=Option.ne_none_iff_exists'.1 hn
  obtain⟨ty2,hr2⟩:=Option.ne_none_iff_exists'.1 hm
  have mixed:∀ n m v u ty j ty',h.T n=some ty→r.qs.contains n=false→(Vh r h e e').τ n=some v→v.ownBlock=some b→¬ Vw v→0<j→hpT bs.length ts j=some ty'→r.back h.nx j=m→(Vh r h e e').τ m=some u→u.ownBlock=some b→¬ Vw u→False:=by
   rintro n m v u ty j ty' hr hq hv hvb hfv h0 hr' rfl hu hub hfu
   have hlt:n<h.nx:=by
    rcases Nat.lt_or_ge n h.nx with h2 | h2
    ·exact h2
    ·rw[(hw.fresh _ h2).2.1]at hr; cases hr
   have hτ:e.τ n=some v:=by simpa [Vh,hlt] using hv
   rw[(k.backs hw' h0).2]at hu
   obtain⟨_,u',q1,q2⟩:=hw'.tok j ty' hr'
   rw[hu]at q1; cases q1
   obtain⟨_,_,_,_,z2,_⟩:=q2.resolve_left hfu
   rcases z2.2 b hub with h1 | h1
   ·obtain⟨_,v',q3,q4⟩:=hw.tok n ty hr
    rw[hτ]at q3; cases q3
    obtain⟨_,_,_,_,y2,_⟩:=q4.resolve_left hfv
    have:=(y2.1.lt b hvb).2
    have h1:e.w.heap.size≤b:=h1
    omega
   ·have:=(k.own h1).2.2.1 n v (by rw[hr]; simp) hτ hfv hvb
    rw[hq]at this; cases this
  rcases Tin n ty hr with⟨j,h0,hj,rfl,hr'⟩|⟨hx,hr',hq⟩ <;> rcases Tin m ty2 hr2 with⟨j2,h02,hj2,rfl,hr2'⟩|⟨hx2,hr2',hq2⟩
  ·rw[(k.backs hw' h0).2]at hv
   rw[(k.backs hw' h02).2]at hu
   rw[hw'.tokinj j j2 v u b (by show hpT bs.length ts j≠none; rw[hr']; simp) (by show hpT bs.length ts j2≠none; rw[hr2']; simp) hv hu hvb hub hfv hfu]
  ·exact(mixed _ _ _ _ _ j ty hr2' hq2 hu hub hfu h0 hr' rfl hv hvb hfv).elim
  ·exact(mixed _ _ _ _ _ j2 ty2 hr' hq hv hvb hfv h02 hr2' rfl hu hub hfu).elim
  ·have h1:n<h.nx:=by
    rcases Nat.lt_or_ge n h.nx with h2 | h2
    ·exact h2
    ·rw[(hw.fresh _ h2).2.1]at hr'; cases hr'
   have h2:m<h.nx:=by
    rcases Nat.lt_or_ge m h.nx with h2 | h2
    ·exact h2
    ·rw[(hw.fresh _ h2).2.1]at hr2'; cases hr2'
   exact hw.tokinj n m v u b (by rw[hr']; simp) (by rw[hr2']; simp) (by simpa [Vh,h1] using hv) (by simpa [Vh,h2] using hu) hvb hub hfv hfu
 ·intro n hge
  have hge:h.nx+bs.length+ts.length≤n:=hge
  obtain⟨g1,g2,_,_,g5⟩:=hw.fresh n (by omega)
  have hge2:¬ n<h.nx:=by omega
  have hcn:=hc (n-h.nx+1) (.inr (by omega))
  refine⟨?_,?_,by simp only[Vh,hge2,if_false]; exact hcn.1,by simp only[Vh,hge2,if_false]; exact hcn.2.1,fun m hm=>?_⟩
  ·show putB (r.back h.nx) 1 bs h.H n=none
   rw[JgF fun j h1 h2 he=>?_,g1]
   have:=βlt j (by omega) (by omega); omega
  ·show putT (r.back h.nx) (bs.length+1) ts (Jd6 r.qs h.T) n=none
   rw[JhP fun j h1 h2 he=>?_]
   ·unfold Jd6; rw[g2]; split <;> rfl
   have:=βlt j (by omega) (by omega); omega
  ·rcases hm with⟨j,h0,hj,hm⟩|⟨_,hm⟩
   ·rcases Nat.lt_or_ge (bs.length+ts.length) j with h1 | h1
    ·exact(hc j (.inr h1)).2.2 m hm
    ·have:=βlt j h0 h1; omega
   ·exact g5 m hm
 ·have:=hw.nx0
  show 0<h.nx+bs.length+ts.length
  omega
 ·have h1:=hw.rt.1
  refine⟨by show Γ.root.length<h.nx+bs.length+ts.length; omega,fun i x hx=>?_⟩
  have h2:=hw.rt.2 i x hx
  have h3:i+1<h.nx:=by
   have:=(List.getElem?_eq_some_iff.1 hx).1
   omega
  simp only[Vh,h3,if_true]
  exact h2
 ·have old:∀ n row,(∀ j,0<j→j≤bs.length→r.back h.nx j≠n)→h.H n=some row→∀ j,0<j→r.back h.nx j≠n:=fun n row hx hr j h0 he=>by
   rcases Nat.lt_or_ge bs.length j with h1 | h1
   ·have hl:=k.lb
    rw[JcM h0 (fun h2=>by omega)]at he
    have:=(hw.fresh n (by omega)).1
    rw[this]at hr; cases hr
   ·exact hx j h0 h1 he
  have oldMu:∀ n m row,(∀ j,0<j→r.back h.nx j≠n)→h.H n=some row→e.μ n m→¬ MG bs0.length ts0.length (renE r e) m:=fun n m row hx hr hm hM=>by
   obtain⟨i,h0,hi,hp,rfl⟩:=(k.own hM).2.2.2 n (by rw[hr]; simp) hm
   exact hx i h0 (Jch h0 hi hp)
  have newMu:∀ j row m,hpH bs j=some row→e'.μ j m→e.w.heap.size≤m∨MG bs0.length ts0.length (renE r e) m:=fun j row m hr hm =>
   (hw'.ext.mu j m (by show hpH bs j≠none; rw[hr]; simp) hm).own
  have oldTok:∀ n ty v b,h.T n=some ty→r.qs.contains n=false→(Vh r h e e').τ n=some v→v.ownBlock=some b→¬ Vw v→e.τ n=some v∧¬ MG bs0.length ts0.length (renE r e) b∧b<e.w.heap.size:=fun n ty v b hr hq hv hvb hf=>by
   have hlt:n<h.nx:=by
    rcases Nat.lt_or_ge n h.nx with h2 | h2
    ·exact h2
    ·rw[(hw.fresh _ h2).2.1]at hr; cases hr
   have hτ:e.τ n=some v:=by simpa [Vh,hlt] using hv
   refine⟨hτ,fun hM=>?_,?_⟩
   ·have:=(k.own hM).2.2.1 n v (by rw[hr]; simp) hτ hf hvb
    rw[hq]at this; cases this
   ·obtain⟨_,v',q3,q4⟩:=hw.tok n ty hr
    rw[hτ]at q3; cases q3
    obtain⟨_,_,_,_,y2,_⟩:=q4.resolve_left hf
    exact(y2.1.lt b hvb).2
  have oldRho:∀ n row b,h.H n=some row→(Vh r h e e').ρ n=some b→e.ρ n=some b:=fun n row b hr hb=>by
   have hlt:n<h.nx:=by
    rcases Nat.lt_or_ge n h.nx with h2 | h2
    ·exact h2
    ·rw[(hw.fresh _ h2).1]at hr; cases hr
   simpa [Vh,hlt] using hb
  -- what a live name owns
  have muC:∀ n m,(h.after r bs ts).H n≠none→(Vh r h e e').μ n m→(∃ j row,0<j∧j≤bs.length∧r.back h.nx j=n∧hpH bs j=some row∧e'.μ j m)∨(∃ row,(∀ j,0<j→r.back h.nx j≠n)∧h.H n=some row∧e.μ n m):=fun n m hn hm=>by
   obtain⟨row,hr⟩:=Option.ne_none_iff_exists'.1 hn
   rcases Hin n row hr with⟨j,row',h0,hj,hb,hr',_⟩|⟨hx,hr'⟩
   ·rcases hm with⟨j2,h02,hb2,hm⟩|⟨hx,_⟩
    ·have:j2=j:=k.back_inj h02 h0 (hb2.trans hb.symm)
     subst this
     exact .inl ⟨j2,row',h0,hj,hb,hr',hm⟩
    ·exact absurd hb (hx j h0)
   ·have hx:=old n row hx hr'
    rcases hm with⟨j2,h02,hb2,_⟩|⟨_,hm⟩
    ·exact absurd hb2 (hx j2 h02)
    ·exact .inr ⟨row,hx,hr',hm⟩
  refine⟨fun n m hn hm=>?_,fun n row j Φ hr hj=>?_⟩
  ·rcases muC n m hn hm with⟨j,row,h0,hj,rfl,hr,hm⟩|⟨row,hx,hr,hm⟩
   ·have q:=hw'.ext.mu j m (by show hpH bs j≠none; rw[hr]; simp) hm
    refine⟨q.lt,q.s,?_,fun i hi hρ=>?_,fun i v hi hv hf hb=>?_,fun i hi him=>?_,q.ob⟩
    ·rcases q.own with h1 | h1
     ·exact .inl (Nat.le_trans hw.hB h1)
     ·exact(k.own h1).1
    ·obtain⟨row2,hr2⟩:=Option.ne_none_iff_exists'.1 hi
     rcases Hin i row2 hr2 with⟨j2,row',h02,hj2,rfl,hr2',_⟩|⟨hx2,hr2'⟩
     ·rw[(k.backs hw' h02).1]at hρ
      exact q.box j2 (by show hpH bs j2≠none; rw[hr2']; simp) hρ
     ·obtain⟨hM,hb',_⟩:=oldBox i row2 m hx2 hr2' (oldRho i row2 m hr2' hρ)
      rcases q.own with h1 | h1
      ·have h1:e.w.heap.size≤m:=h1
       omega
      ·exact hM h1
    ·obtain⟨ty,hr2⟩:=Option.ne_none_iff_exists'.1 hi
     rcases Tin i ty hr2 with⟨j2,h02,hj2,rfl,hr2'⟩|⟨hx2,hr2',hq2⟩
     ·rw[(k.backs hw' h02).2]at hv
      exact q.tok j2 v (by show hpT bs.length ts j2≠none; rw[hr2']; simp) hv hf hb
     ·obtain⟨_,hM,hlt⟩:=oldTok i ty v m hr2' hq2 hv hb hf
      rcases q.own with h1 | h1
      ·have h1:e.w.heap.size≤m:=h1
       omega
      ·exact hM h1
    ·rcases muC i m hi him with⟨j2,row2,h02,hj2,rfl,hr2,hm2⟩|⟨row2,hx2,hr2,hm2⟩
     ·rw[q.one j2 (by show hpH bs j2≠none; rw[hr2]; simp) hm2]
     ·have hM:=oldMu i m row2 hx2 hr2 hm2
      have hlt:=(hw.ext.mu i m (by rw[hr2]; simp) hm2).lt
      rcases q.own with h1 | h1
      ·have h1:e.w.heap.size≤m:=h1
       omega
      ·exact(hM h1).elim
   ·have q:=hw.ext.mu n m (by rw[hr]; simp) hm
    have hM:=oldMu n m row hx hr hm
    have hblk:=notOld m hM q.lt
    refine⟨Nat.lt_of_lt_of_le q.lt hsz,fun o hcx=>?_,q.own,fun i hi hρ=>?_,fun i v hi hv hf hb=>?_,fun i hi him=>?_,fun o ho=>q.ob o (hblk ▸ ho)⟩
    ·exact hw'.s0 m o (q.s o (hcx.of hblk)) hM
    ·obtain⟨row2,hr2⟩:=Option.ne_none_iff_exists'.1 hi
     rcases Hin i row2 hr2 with⟨j2,row',h02,hj2,rfl,hr2',_⟩|⟨hx2,hr2'⟩
     ·rw[(k.backs hw' h02).1]at hρ
      rcases newBox j2 row' m h02 hr2' hρ with h1 | h1
      ·have:=q.lt; omega
      ·exact hM h1
     ·exact q.box i (by rw[hr2']; simp) (oldRho i row2 m hr2' hρ)
    ·obtain⟨ty,hr2⟩:=Option.ne_none_iff_exists'.1 hi
     rcases Tin i ty hr2 with⟨j2,h02,hj2,rfl,hr2'⟩|⟨hx2,hr2',hq2⟩
     ·rw[(k.backs hw' h02).2]at hv
      obtain⟨_,u',q1,q2⟩:=hw'.tok j2 ty hr2'
      rw[hv]at q1; cases q1
      obtain⟨_,_,_,_,z2,_⟩:=q2.resolve_left hf
      rcases z2.2 m hb with h1 | h1
      ·have h1:e.w.heap.size≤m:=h1
       have:=q.lt; omega
      ·exact hM h1
     ·exact q.tok i v (by rw[hr2']; simp) (oldTok i ty v m hr2' hq2 hv hb hf).1 hf hb
    ·rcases muC i m hi him with⟨j2,row2,h02,hj2,rfl,hr2,hm2⟩|⟨row2,hx2,hr2,hm2⟩
     ·rcases newMu j2 row2 m hr2 hm2 with h1 | h1
      ·have:=q.lt; omega
      ·exact(hM h1).elim
     ·exact q.one i (by rw[hr2]; simp) hm2
  ·rcases Hin n row hr with⟨j2,row',h02,hj2,rfl,hr2',rfl⟩|⟨hx2,hr2'⟩
   ·rw[List.getElem?_map]at hj
    obtain⟨c,hcj,hj⟩:=Option.map_eq_some_iff.1 hj
    rw[Jwi hj]at hcj
    obtain⟨b,cs,ty,v,k1,k2,k3,k4⟩:=hw'.ext.kc j2 row' j Φ hr2' hcj
    exact⟨b,cs,ty,v,by rw[(k.backs hw' h02).1]; exact k1,k2,k3,Φ.fr _ _ _ _ _ k4 (fun _ _=>rfl) (fun m hm=>.inl ⟨j2,h02,rfl,hm⟩)⟩
   ·obtain⟨b,cs,ty,v,k1,k2,k3,k4⟩:=hw.ext.kc n row j Φ hr2' hj
    have hx:=old n row hx2 hr2'
    obtain⟨hM,hb,hρ⟩:=oldBox n row b hx2 hr2' k1
    exact⟨b,cs,ty,v,hρ,(notOld b hM hb).trans k2,k3,Φ.fr _ _ _ _ _ k4
     (fun m hm=>notOld m (oldMu n m row hx hr2' hm) (hw.ext.mu n m (by rw[hr2']; simp) hm).lt) (fun m hm=>.inr ⟨hx,hm⟩)⟩
end
end Go.Proofs.Ytaofbminodhcnaa
namespace Go.Proofs.Ytaofbminodhcnaa
open Go.RowKit
structure Tab where
 P:Program
 Φ:Nat→Option PF
 Ψ:Nat→Option MF
 rt:Nat
 G:Nat→GI→Prop
 D:Nat→DI→Prop
 lk:List Nat
structure TabOk (t:Tab):Prop where
 pf:∀ f pf,t.Φ f=some pf→Jh t.P f∧Kl t.P f pf
 mf:∀ f mf,t.Ψ f=some mf→Jh t.P f∧Jpt t.P f mf
 gf:∀ f g,t.G f g→Jh t.P f∧Jx t.P f g
 df:∀ f d,t.D f d→Jh t.P f∧DOk t.P f d
def Jez(ops:Array Oper)(j:Nat):Option Tmp:=(ops[j]?).bind (·.dst)
def J9(ops:Array Oper)(σ:Nat→AV)(g:Option (Nat×Bool))(run skip:Prop):Prop :=
 match g with
 | none=>run
 | some (j,want)=>match Jez ops j with
  | none=>False
  | some d=>match σ d with
   | .c (.d (.v (.bool p)))=>(p=want→run)∧(p=!want→skip)
   | .c (.d (.v (.tuple _)))=>skip
   | _=>False
def VV:AV:=.c (.d (.v undef))
def J3(t:Tab)(σ:Nat→AV):Op→Option (Nat×List AV)
 | .call c=>match c.callee with
  | .value f=>match evA σ f with
   | .c (.d (.v (.func (.func n) fs cs)))=>if fs.size=0∧cs.size=0∧(t.Φ n).isNone=true∧(t.Ψ n).isNone=true then some (n,c.args.toList.map (evA σ)) else none
   | .c (.clo n ns)=>some (n,c.args.toList.map (evA σ)++ns.map fun k=>.c (.pt k 0))
   | _=>none
  | _=>none
 | _=>none
def AsWk(r:Ren):List AV→List AV→Prop
 | [],[]=>True
 | a::l,b::m=>AWk r a b∧AsWk r l m
 | _,_=>False
structure GHands (h:Hp) (r:Ren) (g:GI) (args:List AV):Prop where
 args:AsWk r args g.args
 lb:g.bs.length=r.ps.length
 lt:g.ts.length=r.qs.length
 op:once r.ps=true
 oq:once r.qs=true
 bwk:BWk r h 1 g.bs
 twk:TWk r h (r.ps.length+1) g.ts
 live:∀ row∈g.bs,row≠[]
def aGen(t:Tab)(x:Nat×List AV)(h:Hp)(K:AV→Hp→Prop)(Kp:Value→Hp→Prop):Prop :=
 ∃ g r,t.G x.1 g∧GHands h r g x.2∧match g.out with
  | .ret val bs ts=>K (renA (r.back h.nx) val) (h.after r bs ts)
  | .pan v bs ts=>Kp v (h.after r bs ts)
def isDP:Op→Bool
 | .defer _=>true
 | .panic _=>true
 | _=>false
def JhN(σ:Nat→AV)(c:Call):Option (Nat×List C) :=
 match c.callee with
 | .value f=>match evA σ f with
  | .c (.d (.v (.func (.func n) fs cs)))=>match ZC σ c.args.toList with
   | some ns=>if fs.size=0∧cs.size=0 then some (n,ns.map fun k=>.pt k 0) else none
   | none=>none
  | .c (.clo n ns)=>if c.args.size=0 then some (n,ns.map fun k=>.pt k 0) else none
  | _=>none
 | _=>none
def panV(σ:Nat→AV)(x:Operand):Option Value :=
 match evA σ x with
 | .c (.d (.v (.iface t v)))=>some (.iface t v)
 | _=>none
def aDP(op:Op)(dst:Option Tmp)(K:(Nat→AV)→Hp→Prop)(Kp:Value→Hp→Prop)(σ:Nat→AV)(h:Hp):Prop :=
 match op with
 | .defer c=>match JhN σ c with
  | some d=>K (putA (upd σ DS (.df (d::dfL (σ DS)))) dst VV) h
  | none=>False
 | .panic x=>match panV σ x with
  | some v=>Kp v h
  | none=>False
 | _=>False
def aRun(t:Tab)(op:Op)(dst:Option Tmp)(K:(Nat→AV)→Hp→Prop)(Kp:Value→Hp→Prop)(σ:Nat→AV)(h:Hp):Prop :=
 match J3 t σ op with
 | none=>if isDP op=true then aDP op dst K Kp σ h else(aop t.P t.Φ t.Ψ op σ h).pre∧K (putA σ dst (aop t.P t.Φ t.Ψ op σ h).val) (aop t.P t.Φ t.Ψ op σ h).h
 | some x=>aGen t x h (fun v h'=>K (putA σ dst v) h') Kp
def aOp(t:Tab)(ops:Array Oper)(o:Oper)(K:(Nat→AV)→Hp→Prop)(Kp:Value→Hp→Prop)(σ:Nat→AV)(h:Hp):Prop :=
 J9 ops σ o.guard (aRun t o.op o.dst K Kp σ h) (K (putA σ o.dst VV) h)
def aOps(t:Tab)(ops:Array Oper)(K:(Nat→AV)→Hp→Prop)(Kp:Value→Hp→Prop):List Oper→(Nat→AV)→Hp→Prop
 | [],σ,h=>K σ h
 | o::l,σ,h=>aOp t ops o (aOps t ops K Kp l) Kp σ h
def opIn(nt:Nat)(ops:Array Oper)(o:Oper):Bool :=
 (o.op.operands.toList.all fun | .tmp t=>decide (t<nt) | _=>true) && (match o.guard with | none=>true | some (j,_)=>match Jez ops j with | some d=>decide (d<nt) | none=>false) && (match o.dst with | some d=>d != DS | none=>true)
theorem JdF{nt:Nat}{ops:Array Oper}{o:Oper}(h:opIn nt ops o=true):o.dst≠some DS:=by
 simp only[opIn,Bool.and_eq_true]at h
 intro hd
 rw[hd]at h
 simp at h
theorem Jmi{nt:Nat}{ds:List Deferred}{ops:Array Oper}{o:Oper}{σ:Nat→AV}{a:Act}{e:Env}(h:opIn nt ops o=true)(hs:Jz nt ds σ a e):Jc4 o σ a e:=by
 intro x hx
 refine Jq7 hs x fun t ht=>?_
 subst ht
 simp only[opIn,Bool.and_eq_true,List.all_eq_true]at h
 have:=h.1.1 (.tmp t) (by simpa using hx)
 simpa using this
theorem Jy{ops:Array Oper}{σ:Nat→AV}{g:Option (Nat×Bool)}{r r' s s':Prop}(hr:r→r')(hs:s→s')(h:J9 ops σ g r s):J9 ops σ g r' s':=by
 unfold J9 at *
 split at h
 ·exact hr h
 ·split at h
  ·exact h
  ·split at h
   ·exact⟨fun x=>hr (h.1 x),fun x=>hs (h.2 x)⟩
   ·exact hs h
   ·exact h
theorem Ja8{t:Tab}{x:Nat×List AV}{h:Hp}{K K':AV→Hp→Prop}{Kp Kp':Value→Hp→Prop}(hk:∀ v h,K v h→K' v h)(hp:∀ v h,Kp v h→Kp' v h)(hh:aGen t x h K Kp):aGen t x h K' Kp':=by
 obtain⟨g,r,h1,h2,h3⟩:=hh
 refine⟨g,r,h1,h2,?_⟩
 split at h3
 ·exact hk _ _ h3
 ·exact hp _ _ h3
theorem X3{t:Tab}{op:Op}{dst:Option Tmp}{K K':(Nat→AV)→Hp→Prop}{Kp Kp':Value→Hp→Prop}(hk:∀ σ h,K σ h→K' σ h)(hp:∀ v h,Kp v h→Kp' v h){σ:Nat→AV}{h:Hp}(hh:aRun t op dst K Kp σ h):aRun t op dst K' Kp' σ h:=by
 unfold aRun at *
 split at hh
 ·split at hh
  ·rename_i hdp
   rw[if_pos hdp]
   unfold aDP at *
   split at hh
   ·split at hh
    ·exact hk _ _ hh
    ·exact hh.elim
   ·split at hh
    ·exact hp _ _ hh
    ·exact hh.elim
   ·exact hh.elim
  ·rename_i hdp
   rw[if_neg hdp]
   exact⟨hh.1,hk _ _ hh.2⟩
 ·exact Ja8 (fun _ _=>hk _ _) hp hh
theorem Jfl{t:Tab}{ops:Array Oper}{o:Oper}{K K':(Nat→AV)→Hp→Prop}{Kp Kp':Value→Hp→Prop}(hk:∀ σ h,K σ h→K' σ h)(hp:∀ v h,Kp v h→Kp' v h){σ:Nat→AV}{h:Hp}(hh:aOp t ops o K Kp σ h):aOp t ops o K' Kp' σ h :=
 Jy (X3 hk hp) (hk _ _) hh
theorem JnK{t:Tab}{ops:Array Oper}{K K':(Nat→AV)→Hp→Prop}{Kp Kp':Value→Hp→Prop}(hk:∀ σ h,K σ h→K' σ h)(hp:∀ v h,Kp v h→Kp' v h):∀ {l:List Oper} {σ:Nat→AV} {h:Hp},aOps t ops K Kp l σ h→aOps t ops K' Kp' l σ h
 | [],_,_,hh=>hk _ _ hh
 | _::_,_,_,hh=>Jfl (fun _ _ x=>JnK hk hp x) hp hh
theorem Jjs{Γ:Ctx}{ops:Array Oper}{σ:Nat→AV}{o:Oper}{r s:Prop}{a:Act}{e:Env}(hin:opIn Γ.nt ops o=true)(hs:Jz Γ.nt Γ.ds σ a e)(h:J9 ops σ o.guard r s):
  (Region.wanted o (yielded ops a.tmps)=true∧r)∨(Region.wanted o (yielded ops a.tmps)=false∧s):=by
 unfold J9 at h
 split at h
 ·rename_i hg; exact .inl ⟨by simp[Region.wanted,hg],h⟩
 ·rename_i j want hg
  simp only[opIn,hg,Bool.and_eq_true]at hin
  split at h
  ·exact h.elim
  ·rename_i d hd
   rw[hd]at hin
   have hdlt:d<Γ.nt:=by simpa using hin.1.2
   have hrep:=hs.2.2 d hdlt
   have hget:a.tmps[d]? = some (a.tmps.getD d undef):=by
    have:d<a.tmps.size:=by rw[hs.1]; exact hdlt
    simp[this]
   have hy:yielded ops a.tmps j=match a.tmps.getD d undef with | .bool b=>some b | _=>none:=by
    have hd':(ops[j]?).bind (·.dst)=some d:=hd
    unfold yielded
    rw[hd',Option.bind_some,hget]
    cases a.tmps.getD d undef <;> rfl
   split at h
   ·rename_i p hp
    rw[hp]at hrep
    have hrep:a.tmps.getD d undef=.bool p:=R1.vInv hrep
    rw[hrep]at hy
    simp only at hy
    by_cases hpw:p=want
    ·exact .inl ⟨by simp[Region.wanted,hg,hy,hpw],h.1 hpw⟩
    ·exact .inr ⟨by simp[Region.wanted,hg,hy,hpw],h.2 (by cases p <;> cases want <;> simp_all)⟩
   ·rename_i vs hp
    rw[hp]at hrep
    have hrep:a.tmps.getD d undef=.tuple vs:=R1.vInv hrep
    rw[hrep]at hy
    simp only at hy
    exact .inr ⟨by simp[Region.wanted,hg,hy],h⟩
   ·exact h.elim
theorem RA.undef(e:Env):RA e VV Go.undef:=.v _
def Xc(ops:Array Oper)(σ:Nat→AV):Nat→AV:=fun i=>if ops.toList.any (fun o=>o.dst == some i) then .c .top else σ i
theorem JdK{ops:Array Oper}{o:Oper}(ho:o∈ops.toList)(σ:Nat→AV)(v:AV):Xc ops (putA σ o.dst v)=Xc ops σ:=by
 funext i
 unfold Xc
 split
 ·rfl
 ·rename_i hx
  cases hd:o.dst with
  | none=>rfl
  | some d =>
   simp only[putA,upd]
   by_cases hi:i=d
   ·subst hi
    exfalso
    apply hx
    rw[List.any_eq_true]
    exact⟨o,ho,by simp[hd]⟩
   ·simp[hi]
theorem Juj{nt:Nat}{ops ops':Array Oper}{σ:Nat→AV}(hin:(ops.toList.all (opIn nt ops'))=true):Xc ops σ DS=σ DS:=by
 unfold Xc
 rw[if_neg]
 rw[List.any_eq_true]
 rintro ⟨o,ho,hd⟩
 rw[List.all_eq_true]at hin
 exact JdF (hin o ho) (by simpa using hd)
theorem Jg2{nt:Nat}{ds:List Deferred}{ops ops':Array Oper}{σ:Nat→AV}{a:Act}{e:Env}(hin:(ops.toList.all (opIn nt ops'))=true)(hs:Jz nt ds σ a e):Jz nt ds (Xc ops σ) a e:=by
 refine⟨hs.1,⟨by rw[Juj hin]; exact hs.2.1.1,hs.2.1.2⟩,fun i hi=>?_⟩
 unfold Xc
 split
 ·trivial
 ·exact hs.2.2 i hi
theorem AsWk.ras{r:Ren}{e:Env}:∀ {l m:List AV} {vs:List Value},AsWk r l m→RAs e l vs→RAs (renE r e) m vs
 | [],[],[],_,_=>trivial
 | _::_,_::_,_::_,⟨h1,h2⟩,⟨k1,k2⟩=>⟨AWk.ra h1 k1,AsWk.ras h2 k2⟩
 | [],[],_::_,_,k=>k.elim
 | _::_,_::_,[],_,k=>k.elim
 | [],_::_,_,h,_=>h.elim
 | _::_,[],_,h,_=>h.elim
theorem RAs.of_ops{σ:Nat→AV}{a:Act}{e:Env}:∀ {l:List Operand},(∀ x∈l,RA e (evA σ x) (a.eval x))→RAs e (l.map (evA σ)) (l.map a.eval)
 | [],_=>trivial
 | x::l,h=>⟨h x (by simp),RAs.of_ops fun y hy=>h y (by simp[hy])⟩
theorem RAs.append{e:Env}:∀ {l m:List AV} {vs us:List Value},RAs e l vs→RAs e m us→RAs e (l++m) (vs++us)
 | [],_,[],_,_,k=>k
 | _::_,_,_::_,_,⟨h1,h2⟩,k=>⟨h1,RAs.append h2 k⟩
theorem RAs.of_rp{e:Env}:∀ {ns:List Nat} {vs:List Value},RP e ns vs→RAs e (ns.map fun k=>.c (.pt k 0)) vs
 | [],[],_=>trivial
 | _::_,_::_,⟨⟨b,h1,h2⟩,h3⟩=>⟨⟨b,h1,h2⟩,RAs.of_rp h3⟩
theorem Jqs{Γ:Ctx}{t:Tab}{σ:Nat→AV}{o:Oper}{x:Nat×List AV}(hx:J3 t σ o.op=some x)(hc:Jh Γ.P x.1){a:Act}{e:Env}(hop:Jc4 o σ a e):
  ∃ vs:List Value,(execOp a.eval o).run Γ.P e.w=.ok (.enter x.1 ⟨vs⟩) e.w∧RAs e x.2 vs:=by
 obtain⟨dst,op,ty,pos,after,guard⟩:=o
 simp only at hx
 unfold J3 at hx
 split at hx
 case h_2=>cases hx
 rename_i c
 obtain⟨callee,args,ts⟩:=c
 simp only at hx
 split at hx
 case h_2=>cases hx
 rename_i f
 have hargs:RAs e (args.toList.map (evA σ)) (args.toList.map a.eval):=RAs.of_ops fun y hy=>hop y (by simp[Op.operands,Call.operands]; right; simpa using hy)
 have hf:=hop f (by simp[Op.operands,Call.operands])
 have harr:(⟨args.toList.map a.eval⟩:Array Value)=args.map a.eval:=by apply Array.ext'; simp
 split at hx
 ·rename_i n fs cs hev
  split at hx
  ·rename_i hcond
   obtain⟨h1,h2,_⟩:=hcond
   cases hx
   have h1:fs=#[]:=Array.eq_empty_of_size_eq_zero h1
   have h2:cs=#[]:=Array.eq_empty_of_size_eq_zero h2
   subst h1; subst h2
   rw[hev]at hf
   have hf:=R1.vInv hf
   refine⟨args.toList.map a.eval,?_,hargs⟩
   rw[harr]
   simp only[execOp,resolve,hf,Deferred.ofValue,Sem.run_bind,Sem.run_pure,Result.andThen_ok,invoke,Array.empty_append,Array.append_empty]
   exact hc _ _
  ·cases hx
 ·rename_i n ns hev
  cases hx
  rw[hev]at hf
  obtain⟨vs,h1,h2⟩:=hf
  refine⟨args.toList.map a.eval++vs,?_,hargs.append (RAs.of_rp h1)⟩
  have:(⟨args.toList.map a.eval++vs⟩:Array Value)=args.map a.eval++vs.toArray:=by apply Array.ext'; simp
  rw[this]
  simp only[execOp,resolve,h2,Deferred.ofValue,Sem.run_bind,Sem.run_pure,Result.andThen_ok,invoke,Array.empty_append]
  exact hc _ _
 ·cases hx
theorem Jk2{Γ:Ctx}{t:Tab}(ht:TabOk t)(hP:t.P=Γ.P){σ:Nat→AV}{h:Hp}{o:Oper}{x:Nat×List AV}(hx:J3 t σ o.op=some x){K:AV→Hp→Prop}{Kp:Value→Hp→Prop}(hh:aGen t x h K Kp)
  {a:Act} {e:Env} (hop:Jc4 o σ a e) (hw:WInv Γ h e) {next:Act→World→Prop} {Q:Exit→Act→World→Prop}
  (hk:∀ av h' v e',K av h'→WInv Γ h' e'→e.le e'→RA e' av v→next (a.put o.dst v) e'.w)
  (hp:∀ v h' e',Kp v h'→WInv Γ h' e'→e.le e'→Q (.panic [{ v:=v,recovered:=false }]) a e'.w):o.wp Γ.P a e.w next Q:=by
 obtain⟨g,r,hG,hH,hout⟩:=hh
 obtain⟨hcall,hgen⟩:=ht.gf _ _ hG
 rw[hP]at hcall hgen
 obtain⟨vs,h1,h2⟩:=Jqs hx hcall hop
 unfold Oper.wp
 rw[h1,Oper.upon_enter]
 have hands:Hands Γ h e r g.bs g.ts:=⟨hw,hH.lb,hH.lt,hH.op,hH.oq,hH.bwk,hH.twk,hH.live⟩
 obtain⟨q1,q2⟩:=hands.enter
 refine(hgen (renE r e) vs q1 q2 (AsWk.ras hH.args h2)).mono ?_
 intro en w' hpost
 split at hout
 ·rename_i val bs ts hg
  rw[hg]at hpost
  obtain⟨v,e',rfl,rfl,⟨p1,p2,p3⟩,p4⟩:=hpost
  exact hk _ _ v (Vh _ h e e') hout (hands.leave p1 p2 p3) (hands.le p1) ((hands.toBacks p1 p2).ra p4)
 ·rename_i v bs ts hg
  rw[hg]at hpost
  obtain⟨e',rfl,rfl,p1,p2,p3⟩:=hpost
  exact hp _ _ (Vh _ h e e') hout (hands.leave p1 p2 p3) (hands.le p1)
def Jgc:Op→Bool
 | .defer _=>true
 | _=>false
def JfL:List Oper→Bool
 | []=>true
 | o::l=>(!Jgc o.op || l.isEmpty) && JfL l
theorem JqC{σ:Nat→AV}{a:Act}{e:Env}{l:List Operand}{ns:List Nat}(hx:∀ x∈l,RA e (evA σ x) (a.eval x))(h:ZC σ l=some ns):RCs e (ns.map fun k=>C.pt k 0) (l.map a.eval):=by
 have:∀ {ns:List Nat} {vs:List Value},RP e ns vs→RCs e (ns.map fun k=>C.pt k 0) vs:=by
  intro ns
  induction ns with
  | nil=>intro vs h; cases vs with | nil=>trivial | cons _ _=>exact h.elim
  | cons n ns ih=>intro vs h; cases vs with
   | nil=>exact h.elim
   | cons v vs=>obtain⟨⟨b,h1,h2⟩,h3⟩:=h; exact⟨⟨b,h1,h2⟩,ih h3⟩
 exact this (Jhb hx h)
theorem RP.rcs{e:Env}:∀ {ns:List Nat} {vs:List Value},RP e ns vs→RCs e (ns.map fun k=>C.pt k 0) vs
 | [],[],_=>trivial
 | _::_,_::_,⟨⟨b,h1,h2⟩,h3⟩=>⟨⟨b,h1,h2⟩,RP.rcs h3⟩
theorem Jug{Γ:Ctx}{σ:Nat→AV}{o:Oper}{c:Call}(ho:o.op=.defer c){d:Nat×List C}(hd:JhN σ c=some d){a:Act}{e:Env}(hop:Jc4 o σ a e):
  ∃ q:Deferred,(execOp a.eval o).run Γ.P e.w=.ok (.defer q) e.w∧∃ cap vs,q.target=.fn (.func d.1) cap∧q.args++cap=⟨vs⟩∧RCs e d.2 vs:=by
 obtain⟨callee,args,ts⟩:=c
 unfold JhN at hd
 simp only at hd
 split at hd
 case h_2=>cases hd
 rename_i f
 have hf:=hop f (by simp[ho,Op.operands,Call.operands])
 have hargs:∀ y∈args.toList,RA e (evA σ y) (a.eval y):=fun y hy=>hop y (by simp[ho,Op.operands,Call.operands]; right; simpa using hy)
 have harr:(args.map a.eval)=⟨args.toList.map a.eval⟩:=by apply Array.ext'; simp
 split at hd
 ·rename_i n fs cs hev
  rw[hev]at hf
  have hf:=R1.vInv hf
  split at hd
  case h_2=>cases hd
  rename_i ns hns
  split at hd
  case isFalse=>cases hd
  rename_i hz
  cases hd
  have h1:fs=#[]:=Array.eq_empty_of_size_eq_zero hz.1
  have h2:cs=#[]:=Array.eq_empty_of_size_eq_zero hz.2
  subst h1; subst h2
  refine⟨⟨.fn (.func n) #[],#[]++args.map a.eval⟩,?_,#[],args.toList.map a.eval,rfl,by rw[harr]; simp,JqC hargs hns⟩
  simp only[execOp,ho,resolve,hf,Deferred.ofValue,Sem.run_bind,Sem.run_pure,Result.andThen_ok]
 ·rename_i n ns hev
  rw[hev]at hf
  obtain⟨vs,h1,h2⟩:=hf
  split at hd
  case isFalse=>cases hd
  rename_i hz
  cases hd
  have h3:args=#[]:=Array.eq_empty_of_size_eq_zero hz
  subst h3
  refine⟨⟨.fn (.func n) vs.toArray,#[]++(#[]:Array Operand).map a.eval⟩,?_,vs.toArray,vs,rfl,by simp,h1.rcs⟩
  simp only[execOp,ho,resolve,h2,Deferred.ofValue,Sem.run_bind,Sem.run_pure,Result.andThen_ok]
 ·cases hd
theorem JnE{Γ:Ctx}{σ:Nat→AV}{h:Hp}{o:Oper}{K:(Nat→AV)→Hp→Prop}{Kp:Value→Hp→Prop}{a:Act}{e:Env}(hop:Jc4 o σ a e)(hs:Jz Γ.nt Γ.ds σ a e)(hd:o.dst≠some DS)(hrun:aDP o.op o.dst K Kp σ h)
  {next:Act→World→Prop} {Q:Exit→Act→World→Prop} (hk:Jgc o.op=true→∀ σ' a',K σ' h→Jz Γ.nt Γ.ds σ' a' e→next a' e.w) (hp:∀ v,Kp v h→Q (.panic [{ v:=v,recovered:=false }]) a e.w):o.wp Γ.P a e.w next Q:=by
 unfold aDP at hrun
 split at hrun
 ·rename_i c hc
  split at hrun
  case h_2=>exact hrun.elim
  rename_i d hdc
  obtain⟨q,h1,cap,vs,h2,h3,h4⟩:=Jug (Γ:=Γ) hc hdc hop
  unfold Oper.wp
  rw[h1,Oper.upon_defer]
  refine hk (by rw[hc]; rfl) _ _ hrun ?_
  refine Jz.put (a:={ a with defers:=q::a.defers }) ?_ _ hd (RA.undef e)
  obtain⟨s1,⟨⟨r,s2,s3⟩,s4⟩,s5⟩:=hs
  refine⟨s1,⟨⟨q::r,by simp[s2],?_⟩,s4⟩,fun i hi=>?_⟩
  ·rw[upd_same]
   exact⟨⟨cap,vs,h2,h3,h4⟩,s3⟩
  ·rw[JbW _ _ _ _ (by omega)]; exact s5 i hi
 ·rename_i x hx
  split at hrun
  case h_2=>exact hrun.elim
  rename_i v hv
  have hxr:=hop x (by simp[hx,Op.operands])
  unfold panV at hv
  split at hv
  case h_2=>cases hv
  rename_i ty w hev
  cases hv
  rw[hev]at hxr
  have hxr:=R1.vInv hxr
  unfold Oper.wp
  have:(execOp a.eval o).run Γ.P e.w=.halt (.panic (.iface ty w)) e.w:=by
   simp[execOp,hx,hxr,Instr.panic]
  rw[this,Oper.upon_panic]
  exact hp _ hrun
 ·exact hrun.elim
theorem JlD{Γ:Ctx}{t:Tab}(ht:TabOk t)(hP:t.P=Γ.P){ops:Array Oper}{K:(Nat→AV)→Hp→Prop}{Kp:Value→Hp→Prop}{Q:Exit→Act→World→Prop}{σ0:Nat→AV}(hall:(ops.toList.all (opIn Γ.nt ops))=true)
  (hQ:∀ σ h a e,K σ h→Jz Γ.nt Γ.ds σ a e→WInv Γ h e→Q .normal a e.w)
  (hQp:∀ v h a e,Kp v h→Jz Γ.nt Γ.ds (Xc ops σ0) a e→WInv Γ h e→Q (.panic [{ v:=v,recovered:=false }]) a e.w):∀ (l:List Oper),(∀ o∈l,o∈ops.toList)→JfL l=true→(l.all (opIn Γ.nt ops))=true→∀ (σ:Nat→AV) (h:Hp) (a:Act) (e:Env),
   Xc ops σ=Xc ops σ0→aOps t ops K Kp l σ h→Jz Γ.nt Γ.ds σ a e→WInv Γ h e→wpList Γ.P ops Q l a e.w
 | [],_,_,_,σ,h,a,e,_,hh,hs,hw=>hQ σ h a e hh hs hw
 | o::l,hm,hdl,hin,σ,h,a,e,hf,hh,hs,hw=>by
  simp only[List.all_cons,Bool.and_eq_true]at hin
  have ho:=hm o (by simp)
  simp only[JfL,Bool.and_eq_true,Bool.or_eq_true,Bool.not_eq_true']at hdl
  have ih:=JlD ht hP hall hQ hQp l (fun o h=>hm o (by simp[h])) hdl.2 hin.2
  unfold wpList
  rcases Jjs hin.1 hs hh with⟨hwant,hrun⟩|⟨hwant,hK⟩
  ·rw[if_pos hwant]
   refine .inl ?_
   have hop:=Jmi hin.1 hs
   unfold aRun at hrun
   split at hrun
   ·split at hrun
    ·exact JnE hop hs (JdF hin.1) hrun (fun hde σ' a' hk hs'=>by
      have hl:l=[]:=by simpa using hdl.1.resolve_left (by rw[hde]; simp)
      subst hl
      exact hQ σ' h a' e hk hs' hw) (fun v hk=>hQp v h a e hk (by rw[← hf]; exact Jg2 hall hs) hw)
    obtain⟨hpre,hK⟩:=hrun
    have hvr:VR Γ o σ h (aop t.P t.Φ t.Ψ o.op σ h).val (aop t.P t.Φ t.Ψ o.op σ h).h:=by
     have:=Jt8 (Γ:=Γ) (Φ:=t.Φ) (Ψ:=t.Ψ) (σ:=σ) (h:=h) (by rw[← hP]; exact ht.pf) (by rw[← hP]; exact ht.mf) o (by rw[← hP]; exact hpre)
     rw[← hP]at this
     exact this
    refine hvr a e hop hw _ _ fun v e' hw' hle hv=>?_
    exact ih _ _ _ _ (by rw[JdK ho]; exact hf) hK ((hs.mono hle).put o.dst (JdF hin.1) hv) hw'
   ·rename_i x hx
    exact Jk2 ht hP hx hrun hop hw (fun av h' v e' hk hw' hle hv=>ih _ _ _ _ (by rw[JdK ho]; exact hf) hk ((hs.mono hle).put o.dst (JdF hin.1) hv) hw')
     (fun v h' e' hk hw' hle=>hQp v h' a e' hk (by rw[← hf]; exact Jg2 hall (hs.mono hle)) hw')
  ·rw[if_neg (by rw[hwant]; simp)]
   exact ih _ _ _ _ (by rw[JdK ho]; exact hf) hK (hs.put o.dst (JdF hin.1) (RA.undef e)) hw
def clsA(l:List TypeId):Nat:=if JcG (l.headD 0)=true then 2 else 3
theorem Jf7(l:List TypeId):clsA l=2∨clsA l=3:=by unfold clsA; split <;> simp
theorem JxU{t:TypeId}{l:List TypeId}(h:clsA (t::l)=3):JcG t=false:=by
 unfold clsA at h
 split at h
 ·cases h
 ·rename_i h'; simpa using h'
def cls(pure:Nat→Nat):Op→Nat
 | .alloc _ | .box _ _=>4
 | .store _ _ _=>2
 | .load _ _=>1
 | .defer _=>7
 | .panic _=>7
 | .call c=>match c.callee with
  | .builtin .append=>clsA c.argTypes.toList
  | .builtin .clear=>2
  | .builtin _=>0
  | .value (.func n)=>if pure n=0 then 0 else if pure n=1 then 2 else 6
  | _=>6
 | _=>0
def Jgh(i j:Nat):Bool:=i != 7 && j != 7 && (i == 0 || (j == 0 && i != 6) || (i == 1 && (j == 1 || j == 3 || j == 4)) || (i == 3 && j == 1))
theorem JqH{P:Program}{b:Builtin}(hb:b≠.append)(hb':b≠.clear)(args:List Operand)(ts:List TypeId)(σ:Nat→AV)(h h':Hp):
  (Xg P σ h b args ts).pre=(Xg P σ h' b args ts).pre∧(Xg P σ h b args ts).val=(Xg P σ h' b args ts).val∧(Xg P σ h b args ts).h=h:=by
 unfold Xg
 split
 ·simp only[aLen]; refine⟨?_,?_,?_⟩ <;> (split <;> rfl)
 ·exact absurd rfl hb
 ·simp only[Jaw]; refine⟨?_,?_,?_⟩ <;> (split <;> rfl)
 ·simp only[Jaw]; refine⟨?_,?_,?_⟩ <;> (split <;> rfl)
 ·exact absurd rfl hb'
 ·exact⟨rfl,rfl,rfl⟩
theorem XU{P:Program}{Φ:Nat→Option PF}{Ψ:Nat→Option MF}{pure:Nat→Nat}(hpure:∀ n,pure n=0→(Φ n).isSome){op:Op}(h0:cls pure op=0)(σ:Nat→AV)(h h':Hp):
  (aop P Φ Ψ op σ h).pre=(aop P Φ Ψ op σ h').pre∧(aop P Φ Ψ op σ h).val=(aop P Φ Ψ op σ h').val∧(aop P Φ Ψ op σ h).h=h:=by
 cases op
 case call c =>
  obtain⟨callee,args,ts⟩:=c
  cases callee with
  | invoke _ _=>simp[cls]at h0
  | value f =>
   cases f <;> simp[cls]at h0
   rename_i n
   have h0:pure n=0:=by
    rcases Nat.eq_zero_or_pos (pure n) with h1 | h1
    ·exact h1
    ·have:=h0 (by omega); split at this <;> omega
   simp only[aop,JeP,evA]
   obtain⟨pf,hpf⟩:=Option.isSome_iff_exists.1 (hpure n h0)
   simp[hpf]
  | builtin b =>
   refine JqH (b:=b) (fun hb=>?_) (fun hb=>?_) _ _ _ _ _
   ·subst hb
    have:=Jf7 ts.toList
    simp only[cls]at h0
    omega
   ·subst hb
    simp[cls]at h0
 case slice t x lo hi mx =>
  cases mx with
  | some mx =>
   cases hi with
   | none=>exact⟨rfl,rfl,rfl⟩
   | some hi =>
    simp only[aop,JdC]
    refine⟨?_,?_,?_⟩ <;> (split <;> first | (split <;> rfl) | rfl)
  | none =>
   simp only[aop,JeW]
   refine⟨?_,?_,?_⟩ <;> (split <;> first | (split <;> first | rfl | (split <;> rfl)) | rfl)
 case makeFunc fn first captured =>
  simp only[aop,X9]
  refine⟨?_,?_,?_⟩ <;> (split <;> first | rfl | (split <;> rfl))
 case makeInterface t x =>
  simp only[aop,Ja6]
  refine⟨?_,?_,?_⟩ <;> (split <;> first | rfl | (split <;> rfl))
 case typeAssert x xt t comma =>
  cases comma with
  | false=>exact⟨rfl,rfl,rfl⟩
  | true =>
   simp only[aop,XO]
   refine⟨?_,?_,?_⟩ <;> (split <;> rfl)
 case load=>simp[cls]at h0
 case store=>simp[cls]at h0
 case alloc=>simp[cls]at h0
 case box=>simp[cls]at h0
 case pick=>simp only[aop,Jf6]; refine⟨?_,?_,?_⟩ <;> (split <;> rfl)
 case binOp=>simp only[aop,aBin]; refine⟨?_,?_,?_⟩ <;> (split <;> first | rfl | (split <;> first | (unfold JdJ; split <;> rfl) | (unfold JeU; split <;> rfl)))
 case unOp=>simp only[aop,aUn]; refine⟨?_,?_,?_⟩ <;> (split <;> rfl)
 case nilCheck=>simp only[aop,Jcc]; refine⟨?_,?_,?_⟩ <;> (split <;> rfl)
 case fieldAddr=>simp only[aop,Ja2]; refine⟨?_,?_,?_⟩ <;> (split <;> rfl)
 case field=>simp only[aop,JeM]; refine⟨?_,?_,?_⟩ <;> (split <;> rfl)
 case indexAddr=>simp only[aop,Ja3]; refine⟨?_,?_,?_⟩ <;> (split <;> first | rfl | (split <;> rfl))
 case index=>simp only[aop,JeI]; refine⟨?_,?_,?_⟩ <;> (split <;> rfl)
 case extract=>simp only[aop,JcO]; refine⟨?_,?_,?_⟩ <;> (split <;> rfl)
 case lookup=>simp only[aop,JdG]; refine⟨?_,?_,?_⟩ <;> (split <;> rfl)
 case makeMap t n=>cases n <;> exact⟨rfl,rfl,rfl⟩
 case convert =>
  simp only[aop,JcN]
  refine⟨?_,?_,?_⟩ <;> (split <;> first | (split <;> rfl) | rfl)
 all_goals exact⟨rfl,rfl,rfl⟩
theorem Ji9{pure:Nat→Nat}{op:Op}(h1:cls pure op=1):∃ t x,op=.load t x:=by
 cases op <;> simp only[cls]at h1 <;> first | (exact absurd h1 (by decide)) | skip
 case load t x=>exact⟨t,x,rfl⟩
 case call c =>
  obtain⟨callee,args,ts⟩:=c
  cases callee with
  | invoke _ _=>simp at h1
  | value f=>cases f <;> simp at h1; (repeat' split at h1) <;> simp at h1
  | builtin b=>cases b <;> simp at h1; (have:=Jf7 ts.toList; omega)
theorem Xf{P:Program}{Φ:Nat→Option PF}{Ψ:Nat→Option MF}{pure:Nat→Nat}{op:Op}(h1:cls pure op=1)(σ:Nat→AV)(h:Hp):(aop P Φ Ψ op σ h).h=h:=by
 obtain⟨t,x,rfl⟩:=Ji9 h1
 simp only[aop,JeQ]
 split
 ·split <;> rfl
 ·rfl
 ·unfold Jbo; split <;> rfl
 ·rfl
theorem Jp0{P:Program}{Φ:Nat→Option PF}{Ψ:Nat→Option MF}{pure:Nat→Nat}{op:Op}(h1:cls pure op=1)(σ:Nat→AV)(h h':Hp)(hh:∀ n row,h.H n=some row→h'.H n=some row)
  (hp:(aop P Φ Ψ op σ h).pre):(aop P Φ Ψ op σ h').pre∧(aop P Φ Ψ op σ h').val=(aop P Φ Ψ op σ h).val:=by
 obtain⟨t,x,rfl⟩:=Ji9 h1
 simp only[aop,JeQ]at hp ⊢
 split at hp
 ·split at hp
  ·rename_i row hrow
   rw[hh _ _ hrow]
   exact⟨hp,rfl⟩
  ·exact hp.elim
 ·exact⟨hp,rfl⟩
 ·unfold Jbo at hp ⊢
  split at hp
  ·rename_i hrow
   rw[hh _ _ hrow]
   exact⟨hp,rfl⟩
  ·rename_i hrow
   rw[hh _ _ hrow]
   exact⟨hp,rfl⟩
  ·exact hp.elim
 ·exact hp.elim
theorem Je9{P:Program}{Φ:Nat→Option PF}{Ψ:Nat→Option MF}{pure:Nat→Nat}{op:Op}(h3:cls pure op=3)(σ:Nat→AV)(h:Hp):(aop P Φ Ψ op σ h).h.H=h.H:=by
 cases op <;> simp only[cls]at h3 <;> first | (exact absurd h3 (by decide)) | skip
 case call c =>
  obtain⟨callee,args,ts⟩:=c
  cases callee with
  | invoke _ _=>simp at h3
  | value f=>cases f <;> simp at h3; (repeat' split at h3) <;> simp at h3
  | builtin b =>
   cases b <;> simp at h3
   simp only[aop,Xg]
   split
   ·rename_i hb _ _; cases hb
   ·rename_i hargs hts
    rw[hts]at h3
    have h3:=JxU h3
    split
    ·have h30:∀ t,JcG t=false→JfF t=false:=fun t h=>by
      unfold JcG at h; unfold JfF; rw[h]; rfl
     simp only[Jc9,h3,h30 _ h3,Bool.false_eq_true,if_false,false_and]
     split
     ·unfold Jcq; split <;> rfl
     ·rfl
     ·rfl
     ·rfl
    ·simp only[Jc5,h3,Bool.false_eq_true,if_false]
     split <;> rfl
   ·rename_i hb _; cases hb
   ·rename_i hb _; cases hb
   ·rename_i hb _ _; cases hb
   ·rfl
theorem JoT{P:Program}{Φ:Nat→Option PF}{Ψ:Nat→Option MF}{pure:Nat→Nat}{op:Op}(h4:cls pure op=4)(σ:Nat→AV)(h:Hp):∃ row,(aop P Φ Ψ op σ h).h=h.box row:=by
 cases op <;> simp only[cls]at h4 <;> first | (exact absurd h4 (by decide)) | skip
 case alloc t=>exact⟨_,rfl⟩
 case box t x=>exact⟨_,rfl⟩
 case call c =>
  obtain⟨callee,args,ts⟩:=c
  cases callee with
  | invoke _ _=>simp at h4
  | value f=>cases f <;> simp at h4; (repeat' split at h4) <;> simp at h4
  | builtin b=>cases b <;> simp at h4; (have:=Jf7 ts.toList; omega)
def Hp.Fr(h:Hp):Prop:=∀ n,h.nx≤n→h.H n=none
theorem Fr.setOld{h:Hp}(hf:h.Fr){n:Nat}{row row':List C}(hn:h.H n=some row):Hp.Fr { h with H:=upd h.H n (some row') }:=by
 intro m hm
 have:=hf m hm
 have hne:m≠n:=fun he=>by rw[he,hn]at this; cases this
 simp[upd,hne,this]
theorem Fr.box{h:Hp}(hf:h.Fr)(row:List C):(h.box row).Fr:=by
 intro m hm
 have hm':h.nx+1≤m:=hm
 have hne:m≠h.nx:=by omega
 simp[Hp.box,upd,hne,hf m (by omega)]
theorem JnT{P:Program}{Φ:Nat→Option PF}{Ψ:Nat→Option MF}{op:Op}{σ:Nat→AV}{h:Hp}(hf:h.Fr):(aop P Φ Ψ op σ h).h.Fr:=by
 by_cases h0:cls (fun _=>2) op=0
 ·rw[(XU (P:=P) (Φ:=Φ) (Ψ:=Ψ) (pure:=fun _=>2) (fun n hn=>by cases hn) h0 σ h h).2.2]; exact hf
 cases op
 case load t x=>rw[Xf (pure:=fun _=>2) rfl]; exact hf
 case alloc t=>exact Fr.box hf _
 case box t x=>exact Fr.box hf _
 case store t x y =>
  simp only[aop,JeZ]
  split
  ·split
   ·rename_i hrow; exact Fr.setOld hf hrow
   ·exact hf
  ·unfold JbR
   split
   ·rename_i hrow; exact Fr.setOld hf hrow
   ·rename_i hrow; exact Fr.setOld hf hrow
   ·exact hf
  ·exact hf
 case call c =>
  obtain⟨callee,args,ts⟩:=c
  cases callee with
  | invoke _ _=>exact hf
  | value f =>
   simp only[aop,JeP]
   split
   ·split
    ·exact hf
    ·split
     ·split
      ·split
       ·rename_i hrow; exact Fr.setOld hf hrow
       ·exact hf
      ·exact hf
     ·exact hf
   ·exact hf
  | builtin b =>
   simp only[aop,Xg]
   split
   ·simp only[aLen]; split <;> exact hf
   ·split
    ·have two:∀ (n:Nat) (r:Option (List C)),Hp.Fr { h with H:=upd (upd h.H n none) h.nx r,nx:=h.nx+1 }:=fun n r=>by
      intro m hm
      have hm':h.nx+1≤m:=hm
      have:=hf m (by omega)
      have hne:m≠h.nx:=by omega
      show upd (upd h.H n none) h.nx _ m=none
      rw[JbW _ _ _ _ hne]
      by_cases hmn:m=n
      ·subst hmn; exact upd_same _ _ _
      ·rw[JbW _ _ _ _ hmn]; exact this
     have arr:∀ t n sz len szy ys op,(JbG P h t n sz len szy ys op (h.H n)).h.Fr:=fun t n sz len szy ys op=>by
      unfold JbG
      split
      ·exact two _ _
      ·exact hf
     have bar:∀ t n sz len ys,(Z5 P h t n sz len ys (h.H n)).h.Fr:=fun t n sz len ys=>by
      unfold Z5
      split
      ·exact two _ _
      ·exact hf
     have fs:∀ t sz l x,(Jc3 P h t sz l x).h.Fr:=fun t sz l x=>by
      unfold Jc3
      split
      ·intro m hm
       have hm':h.nx+1≤m:=hm
       have hne:m≠h.nx:=by omega
       show upd h.H h.nx _ m=none
       rw[JbW _ _ _ _ hne]; exact hf m (by omega)
      ·exact hf
     simp only[Jc9]
     split
     ·split
      ·exact fs _ _ _ _
      ·unfold Jcq
       split
       ·intro m hm
        have hm':h.nx+1≤m:=hm
        exact hf m (by omega)
       ·exact hf
     ·split
      ·exact fs _ _ _ _
      ·exact hf
     ·split
      ·unfold JgG
       split
       ·exact arr _ _ _ _ _ _ _
       ·split
        ·split
         ·exact bar _ _ _ _ _
         ·exact hf
        ·split
         ·exact arr _ _ _ _ _ _ _
         ·exact hf
      ·exact hf
     ·exact hf
    ·simp only[Jc5]
     split
     ·split
      ·have bar:∀ t n sz len ys,(Z5 P h t n sz len ys (h.H n)).h.Fr:=fun t n sz len ys=>by
        unfold Z5
        split
        ·intro m hm
         have hm':h.nx+1≤m:=hm
         have:=hf m (by omega)
         have hne:m≠h.nx:=by omega
         show upd (upd h.H n none) h.nx _ m=none
         rw[JbW _ _ _ _ hne]
         by_cases hmn:m=n
         ·subst hmn; exact upd_same _ _ _
         ·rw[JbW _ _ _ _ hmn]; exact this
        ·exact hf
       exact bar _ _ _ _ _
      ·exact hf
     ·exact hf
   ·simp only[Jaw]; split <;> exact hf
   ·simp only[Jaw]; split <;> exact hf
   ·simp only[Je0]
    split
    ·split
     ·rename_i hrow; exact Fr.setOld hf hrow
     ·exact hf
    ·exact hf
   ·exact hf
 case defer c=>exact hf
 case panic x=>exact hf
 all_goals exact absurd rfl h0
end Go.Proofs.Ytaofbminodhcnaa
