/- Code,and functions of data. -/
import Derived.Test.YtfkhlbhjhdpkoaaGreatDoorZrac
import Derived.Deep.LoopGhost
import Derived.Recover
set_option linter.unusedVariables false
set_option linter.unusedSimpArgs false
namespace Go.Proofs.YtfkhlbhjhdpkoaaGreatDoor
open Go.RowKit
structure Hp.Good (h:Hp):Prop where
 H:∀ n,h.nx≤n→h.H n=none
 T:∀ n,h.nx≤n→h.T n=none
 T0:h.T 0=none
 nx:0<h.nx
theorem WInv.good{Γ:Ctx}{h:Hp}{e:Env}(hw:WInv Γ h e):h.Good :=
 ⟨fun n hn=>(hw.fresh n hn).1,fun n hn=>(hw.fresh n hn).2.1,by
  cases hT:h.T 0 with
  | none=>rfl
  | some ty=>exact absurd rfl (hw.tok 0 ty hT).1,hw.nx0⟩
abbrev Kl:=Exit→(Nat→AV)→Hp→Prop
structure Given (p q:Prop):Prop where
 get:p→q
def Jxw(lk:List Nat)(nt:Nat):Bool:=lk.all fun x=>x.blt 1000000 || x.beq (1000000+nt)
theorem JxA{lk:List Nat}{nt n:Nat}(h:Jxw lk nt=true)(hn:lk.contains (1000000+n)=true):nt=n:=by
 have:=List.all_eq_true.1 h _ (by simpa using hn)
 simp only[Bool.or_eq_true,Nat.blt_eq,Nat.beq_eq]at this
 omega
def JCX(P:Program)(lk:List Nat)(id:Nat)(ops:Array Oper)(draw:Bool)(σ:Nat→AV)(h:Hp)(σ2:Nat→AV)(h2:Hp):Prop :=
 lk.contains 999999=false∧∀ (Γ:Ctx) (a:Act) (e:Env),Γ.P=P→(∀ n,lk.contains (1000000+n)=true→Γ.nt=n)→Jv Γ.nt Γ.ds σ a e→WInv Γ h e →
  (Code.region id ops draw).wp P (fun ex a' w'=>ex=.normal∧∃ e',e'.w=w'∧Jv Γ.nt Γ.ds σ2 a' e'∧WInv Γ h2 e') a e.w
def aC(t:Tab):Code→(Nat→AV)→Hp→Kl→Prop
 | .skip,σ,h,Q=>Q .normal σ h
 | .region id ops draw,σ,h,Q=>∃ σ1 h1,Wk t.rt σ h σ1 h1∧(aReg t id ops draw (Q .normal) (fun v h'=>Q (.panic [{ v:=v,recovered:=false }]) (Ku ops σ1) h') σ1 h1∨∃ σ2 h2,JCX t.P t.lk id ops draw σ1 h1 σ2 h2∧Q .normal σ2 h2)
 | .seq a b,σ,h,Q=>aC t a σ h (fun ex σ' h'=>match ex with | .normal=>∃ σ2 h2,Wk t.rt σ' h' σ2 h2∧Given h2.Good (aC t b σ2 h2 Q) | ex=>Q ex σ' h')
 | .cond c x y,σ,h,Q=>match evA σ c with
  | .c (.d (.v (.bool p)))=>(p=true→aC t x σ h Q)∧(p=false→aC t y σ h Q)
  | _=>False
 | .block id b,σ,h,Q=>aC t b σ h (fun ex σ' h'=>match ex with | .exit j=>if j=id then Q .normal σ' h' else Q (.exit j) σ' h' | ex=>Q ex σ' h')
 | .loop b,σ,h,Q=>∃ I:Nat→(Nat→AV)→Hp→Prop,(∃ n σ1 h1,Wk t.rt σ h σ1 h1∧I n σ1 h1)∧∀ n σ' h',I n σ' h'→h'.Good→aC t b σ' h' (fun ex σ'' h''=>match ex with | .normal=>∃ m σ3 h3,m<n∧Wk t.rt σ'' h'' σ3 h3∧I m σ3 h3 | ex=>Q ex σ'' h'')
 | .exit id,σ,h,Q=>Q (.exit id) σ h
 | .ret,σ,h,Q=>Q .ret σ h
 | _,_,_,_=>False
def Kd(pure:Nat→Nat)(lk:List Nat)(nt:Nat):Code→Bool
 | .region id ops draw=>((ops.toList.all (opIn nt ops) && Jgl ops.toList) && (!draw || ((lk.contains id || Jn6 pure ops) && ops.toList.all fun o=>!JaW o.op))) && Jxw lk nt
 | .seq a b=>Kd pure lk nt a && Kd pure lk nt b
 | .cond c x y=>(match c with | .tmp t=>decide (t<nt) | _=>true) && Kd pure lk nt x && Kd pure lk nt y
 | .block _ b=>Kd pure lk nt b
 | .loop b=>Kd pure lk nt b
 | _=>true
theorem Jaa{Γ:Ctx}{t:Tab}{pure:Nat→Nat}(ht:TabOk t)(hP:t.P=Γ.P)(hrt:Γ.root.length=t.rt)(hm:Γ.P.follows .mixedOrders=true)(hpure:∀ n,pure n=0→(t.Φ n).isSome)(hnp:∀ n,pure n=1→∀ g,t.G n g→∃ val bs ts,g.out=.ret val bs ts):
  ∀ (c:Code) (Q:Kl) (Q':Exit→Act→World→Prop),Kd pure t.lk Γ.nt c=true→(∀ ex σ h a e,Q ex σ h→Jv Γ.nt Γ.ds σ a e→WInv Γ h e→Q' ex a e.w) →
   ∀ (σ:Nat→AV) (h:Hp) (a:Act) (e:Env),aC t c σ h Q→Jv Γ.nt Γ.ds σ a e→WInv Γ h e→c.wp Γ.P Q' a e.w
 | .skip,Q,Q',_,hQ,σ,h,a,e,hh,hs,hw=>wp_skip (hQ _ _ _ _ _ hh hs hw)
 | .region id ops draw,Q,Q',hc,hQ,σ,h,a,e,hh,hs,hw=>by
  simp only[Kd,Bool.and_eq_true,Bool.or_eq_true]at hc
  obtain⟨hc,hnt⟩:=hc
  obtain⟨σ1,h1,hwk,hh⟩:=hh
  obtain⟨e1,he,hs,hw⟩:=hwk Γ a e hrt hs hw
  rw[← he]
  rcases hh with hh | ⟨σ2,h2,hr,hq⟩
  case inr =>
   rw[← hP]
   exact Code.wp_mono (fun ex a' w' ⟨hx,e',h1,h2,h3⟩=>by subst hx; subst h1; exact hQ _ _ _ _ _ hq h2 h3) (hr.2 Γ a e1 hP.symm (fun n hn=>JxA hnt hn) hs hw)
  exact JuT ht hP hm hpure hnp hc.1.1 (fun hd=>by rcases hc.2 with h | h; rw[hd]at h; cases h; exact h) hc.1.2 (fun σ h a e hk=>hQ _ σ h a e hk) (fun v h a e hk=>hQ _ _ h a e hk) hh hs hw
 | .seq x y,Q,Q',hc,hQ,σ,h,a,e,hh,hs,hw=>by
  simp only[Kd,Bool.and_eq_true]at hc
  refine wp_seq (Jaa ht hP hrt hm hpure hnp x _ _ hc.1 (fun ex σ h a e hk hs hw=>?_) σ h a e hh hs hw)
  cases ex with
  | normal =>
   obtain⟨σ2,h2,hwk,hk⟩:=hk
   obtain⟨e2,he,hs2,hw2⟩:=hwk Γ a e hrt hs hw
   rw[← he]
   exact Jaa ht hP hrt hm hpure hnp y Q Q' hc.2 hQ σ2 h2 a e2 (hk.get hw2.good) hs2 hw2
  | exit id=>exact hQ _ _ _ _ _ hk hs hw
  | goto l=>exact hQ _ _ _ _ _ hk hs hw
  | ret=>exact hQ _ _ _ _ _ hk hs hw
  | panic ch=>exact hQ _ _ _ _ _ hk hs hw
  | outgrown=>exact hQ _ _ _ _ _ hk hs hw
 | .cond c x y,Q,Q',hc,hQ,σ,h,a,e,hh,hs,hw=>by
  simp only[Kd,Bool.and_eq_true]at hc
  simp only[aC]at hh
  split at hh
  ·rename_i p hp
   have hr:=Jlu hs c (fun t ht=>by subst ht; simpa using hc.1.1)
   rw[hp]at hr
   have hr:=R1.vInv hr
   exact wp_cond_split hr (fun h1=>Jaa ht hP hrt hm hpure hnp x Q Q' hc.1.2 hQ σ h a e (hh.1 h1) hs hw) (fun h1=>Jaa ht hP hrt hm hpure hnp y Q Q' hc.2 hQ σ h a e (hh.2 h1) hs hw)
  exact hh.elim
 | .block id b,Q,Q',hc,hQ,σ,h,a,e,hh,hs,hw=>by
  refine wp_block (Jaa ht hP hrt hm hpure hnp b _ _ hc (fun ex σ h a e hk hs hw=>?_) σ h a e hh hs hw)
  cases ex with
  | normal=>exact hQ _ _ _ _ _ hk hs hw
  | exit j =>
   simp only[Exit.inBlock]
   simp only at hk
   split at hk
   ·rename_i hj; rw[if_pos hj]; exact hQ _ _ _ _ _ hk hs hw
   rename_i hj; rw[if_neg hj]; exact hQ _ _ _ _ _ hk hs hw
  | goto l=>exact hQ _ _ _ _ _ hk hs hw
  | ret=>exact hQ _ _ _ _ _ hk hs hw
  | panic ch=>exact hQ _ _ _ _ _ hk hs hw
  | outgrown=>exact hQ _ _ _ _ _ hk hs hw
 | .loop b,Q,Q',hc,hQ,σ,h,a,e,hh,hs,hw=>by
  obtain⟨I,⟨n₀,σ1,h1,hwk,h0⟩,hround⟩:=hh
  obtain⟨e1,he,hs1,hw1⟩:=hwk Γ a e hrt hs hw
  refine wp_loop_ghost (fun n a' w'=>∃ σ' h' e',e'.w=w'∧I n σ' h'∧Jv Γ.nt Γ.ds σ' a' e'∧WInv Γ h' e') n₀ ⟨σ1,h1,e1,he,h0,hs1,hw1⟩ ?_
  rintro n a' w' ⟨σ',h',e',rfl,hI,hs',hw'⟩
  refine Jaa ht hP hrt hm hpure hnp b _ _ hc (fun ex σ h a e hk hs hw=>?_) σ' h' a' e' (hround n σ' h' hI hw'.good) hs' hw'
  cases ex with
  | normal =>
   obtain⟨m,σ3,h3,hm,hwk,hI'⟩:=hk
   obtain⟨e3,he3,hs3,hw3⟩:=hwk Γ a e hrt hs hw
   exact⟨m,hm,σ3,h3,e3,he3,hI',hs3,hw3⟩
  | exit id=>exact hQ _ _ _ _ _ hk hs hw
  | goto l=>exact hQ _ _ _ _ _ hk hs hw
  | ret=>exact hQ _ _ _ _ _ hk hs hw
  | panic ch=>exact hQ _ _ _ _ _ hk hs hw
  | outgrown=>exact hQ _ _ _ _ _ hk hs hw
 | .exit id,Q,Q',_,hQ,σ,h,a,e,hh,hs,hw=>wp_exit (hQ _ _ _ _ _ hh hs hw)
 | .ret,Q,Q',_,hQ,σ,h,a,e,hh,hs,hw=>wp_ret (hQ _ _ _ _ _ hh hs hw)
 | .rangeFunc _ _ _ _,_,_,_,_,_,_,_,_,hh,_,_=>hh.elim
 | .scope _,_,_,_,_,_,_,_,_,hh,_,_=>hh.elim
 | .label _,_,_,_,_,_,_,_,_,hh,_,_=>hh.elim
 | .goto _,_,_,_,_,_,_,_,_,hh,_,_=>hh.elim
 | .refuse _,_,_,_,_,_,_,_,_,hh,_,_=>hh.elim
theorem Jg{P:Program}{f:Nat}{fn:Func}(hf:P.funcs[f]? = some fn)(hn:(fn.name == "runtime.NumGoroutine")=false)(hb:fn.body.isNone=false):Jc P f:=by
 intro args w
 simp only[callFunc,Sem.run_bind,run_program,Result.andThen_ok,hf,hn,hb,Bool.false_eq_true,if_false,Sem.run_pure]
def sig0(args:List AV):Nat→AV:=fun i=>args.getD i KP
theorem JoL{args:List AV}(h:args.length≤DS):dfL (sig0 args DS)=[]:=by
 unfold sig0
 rw[List.getD_eq_getElem?_getD,List.getElem?_eq_none h]
 rfl
theorem RDf.nil{e:Env}{a:AV}{l:List Deferred}(h:dfL a=[])(k:RDf e [] a l):l=[]:=by
 obtain⟨r,h1,h2⟩:=k
 rw[h]at h2
 cases r with
 | nil=>simpa using h1
 | cons _ _=>exact h2.elim
def hp0:Hp:=⟨fun _=>none,fun _=>none,1⟩
def Jb8(P:Program)(σ:Nat→AV)(h:Hp):ResultVar→Prop×D
 | .tmp t=>((σ t).isD=true,(σ t).toD)
 | .cell a ty=>match σ a with
  | .c (.pt n 0)=>match h.H n with
   | some row=>(rowP row=true∧(Kb P h ty row 0).pre∧(Kb P h ty row 0).val.isD=true,(Kb P h ty row 0).val.toD)
   | none=>(False,.v undef)
  | _=>(False,.v undef)
def VW(nt:Nat):ResultVar→Bool
 | .tmp t=>decide (t<nt)
 | .cell a _=>decide (a<nt)
def Jfn:List D→D
 | [d]=>d
 | l=>.tu l
def le0:D→D→Prop
 | .sl sz l,.sl sz' l'=>l=l'∧(sz=sz'∨l=[])
 | x,y=>x=y
def les0:List D→List D→Prop
 | [],[]=>True
 | x::l,y::m=>le0 x y∧les0 l m
 | _,_=>False
def le1:D→D→Prop
 | .ag l,.ag m=>les0 l m
 | x,y=>le0 x y
def les1:List D→List D→Prop
 | [],[]=>True
 | x::l,y::m=>le1 x y∧les1 l m
 | _,_=>False
def le2:D→D→Prop
 | .tu l,.tu m=>les1 l m
 | x,y=>le1 x y
theorem JyE{w:World}{S:Nat→Nat→Prop}{x y:D}{v:Value}(h:le0 x y)(k:R1 w S x v):R1 w S y v:=by
 unfold le0 at h
 split at h
 ·obtain⟨rfl,h⟩:=h
  exact k.resize h.symm
 subst h; exact k
theorem Jwi{w:World}{S:Nat→Nat→Prop}:∀ {l m:List D} {vs:List Value},les0 l m→Rn w S l vs→Rn w S m vs
 | [],[],_,_,k=>k
 | _::_,_::_,_,⟨h1,h2⟩,k=>by cases k with | acons _ _ _ _ k1 k2=>exact .acons _ _ _ _ (JyE h1 k1) (Jwi h2 k2)
 | [],_::_,_,h,_=>h.elim
 | _::_,[],_,h,_=>h.elim
theorem Jyp{w:World}{S:Nat→Nat→Prop}{x y:D}{v:Value}(h:le1 x y)(k:R1 w S x v):R1 w S y v:=by
 unfold le1 at h
 split at h
 ·obtain⟨vs,rfl,k2⟩:=R1.agInv k
  exact .ag _ _ (Jwi h k2)
 exact JyE h k
theorem Je2{w:World}{S:Nat→Nat→Prop}:∀ {l m:List D} {vs:List Value},les1 l m→Rn w S l vs→Rn w S m vs
 | [],[],_,_,k=>k
 | _::_,_::_,_,⟨h1,h2⟩,k=>by cases k with | acons _ _ _ _ k1 k2=>exact .acons _ _ _ _ (Jyp h1 k1) (Je2 h2 k2)
 | [],_::_,_,h,_=>h.elim
 | _::_,[],_,h,_=>h.elim
theorem JCp{w:World}{S:Nat→Nat→Prop}{x y:D}{v:Value}(h:le2 x y)(k:R1 w S x v):R1 w S y v:=by
 unfold le2 at h
 split at h
 ·obtain⟨vs,rfl,k2⟩:=R1.tuInv k
  exact .tu _ _ (Je2 h k2)
 exact Jyp h k
def JbQ:D→D
 | .sl _ l=>.sl 0 l
 | d=>d
def Ke:D→D
 | .ag l=>.ag (l.map JbQ)
 | d=>JbQ d
theorem JyW{x y:D}(h:le0 x y):JbQ x=JbQ y:=by
 unfold le0 at h
 split at h
 ·obtain⟨rfl,_⟩:=h; rfl
 subst h; rfl
theorem Jmv:∀ {l m:List D},les0 l m→l.map JbQ=m.map JbQ
 | [],[],_=>rfl
 | _::_,_::_,⟨h1,h2⟩=>by rw[List.map_cons,List.map_cons,JyW h1,Jmv h2]
 | [],_::_,h=>h.elim
 | _::_,[],h=>h.elim
theorem Jyo{x y:D}(h:le1 x y):Ke x=Ke y:=by
 unfold le1 at h
 split at h
 ·simp only[Ke,Jmv h]
 unfold le0 at h
 split at h
 ·obtain⟨rfl,_⟩:=h; rfl
 subst h; rfl
theorem JiA:∀ {l m:List D},les1 l m→l.map Ke=m.map Ke
 | [],[],_=>rfl
 | _::_,_::_,⟨h1,h2⟩=>by rw[List.map_cons,List.map_cons,Jyo h1,JiA h2]
 | [],_::_,h=>h.elim
 | _::_,[],h=>h.elim
theorem JAa(x:D):le0 x x:=by cases x <;> simp[le0]
theorem JrB:∀ l:List D,les0 l l
 | []=>trivial
 | x::l=>⟨JAa x,JrB l⟩
theorem JzN(x:D):le1 x x:=by cases x <;> simp[le1,le0,JrB]
theorem JhJ:∀ l:List D,les1 l l
 | []=>trivial
 | x::l=>⟨JzN x,JhJ l⟩
def aRet(P:Program)(rs:List ResultVar)(σ:Nat→AV)(h:Hp)(d:D):Prop :=
 (∀ r∈rs,(Jb8 P σ h r).1)∧le2 (Jfn (rs.map fun r=>(Jb8 P σ h r).2)) d
theorem JzX{Γ:Ctx}{σ:Nat→AV}{h:Hp}{a:Act}{e:Env}(hs:Jv Γ.nt Γ.ds σ a e)(hw:WInv Γ h e){r:ResultVar}(hin:VW Γ.nt r=true)(hp:(Jb8 Γ.P σ h r).1):
  ∃ v,(match r with | .tmp t=>pure (a.tmps.getD t undef) | .cell x ty=>do loadVar ty (← asAddr (a.tmps.getD x undef)):Sem Value).run Γ.P e.w=.ok v e.w∧R1 e.w e.S (Jb8 Γ.P σ h r).2 v:=by
 cases r with
 | tmp t =>
  simp only[VW,decide_eq_true_eq]at hin
  exact⟨_,by simp,(hs.2.2 t hin).toD hp⟩
 | cell x ty =>
  simp only[VW,decide_eq_true_eq]at hin
  have hx:=hs.2.2 x hin
  simp only[Jb8]at hp ⊢
  split at hp
  ·rename_i n hσ
   split at hp
   ·rename_i row hrow
    rw[hσ]at hx
    obtain⟨b,h2,h3⟩:=hx
    obtain⟨b',cs,ty',h4,h5,h6,h7,_⟩:=hw.boxAt h2 row hrow (Z8 hp.1)
    rw[h2]at h4
    simp at h4
    subst h4
    obtain⟨v,h8,h9⟩:=Jf2 (b:=b) (o:=0) hp.2.1 (h6.plain hp.1) (fun i x hx=>by simp[World.cell?,h5]; simpa using hx)
    refine⟨v,?_,h9.toD hp.2.2⟩
    simp only[Nat.zero_add]at h8
    simp only[h3,asAddr,Sem.run_bind,Sem.run_pure,Result.andThen_ok]
    simpa [Instr.loadAt,Instr.sureAddr] using h8
   exact hp.elim
  exact hp.elim
theorem Jl7{Γ:Ctx}{σ:Nat→AV}{h:Hp}{a:Act}{e:Env}(hs:Jv Γ.nt Γ.ds σ a e)(hw:WInv Γ h e):∀ (rs:List ResultVar),(rs.all (VW Γ.nt))=true→(∀ r∈rs,(Jb8 Γ.P σ h r).1) →
  ∃ vs,(rs.mapM fun r=>(match r with | .tmp t=>pure (a.tmps.getD t undef) | .cell x ty=>do loadVar ty (← asAddr (a.tmps.getD x undef)):Sem Value)).run Γ.P e.w=.ok vs e.w∧Rn e.w e.S (rs.map fun r=>(Jb8 Γ.P σ h r).2) vs
 | [],_,_=>⟨[],by simp,.anil⟩
 | r::rs,hin,hp=>by
  simp only[List.all_cons,Bool.and_eq_true]at hin
  obtain⟨v,h1,h2⟩:=JzX hs hw hin.1 (hp r (by simp))
  obtain⟨vs,h3,h4⟩:=Jl7 hs hw rs hin.2 (fun r hr=>hp r (by simp[hr]))
  refine⟨v::vs,?_,.acons _ _ _ _ h2 h4⟩
  rw[List.mapM_cons,Sem.run_bind,h1,Result.andThen_ok,Sem.run_bind,h3]
  rfl
theorem Jjs{Γ:Ctx}{σ:Nat→AV}{h:Hp}{a:Act}{e:Env}{fn:Func}{d:D}(hs:Jv Γ.nt Γ.ds σ a e)(hw:WInv Γ h e)(hin:(fn.results.toList.all (VW Γ.nt))=true)(hr:aRet Γ.P fn.results.toList σ h d):
  ∃ v,(results fn a.tmps).run Γ.P e.w=.ok v e.w∧R1 e.w e.S d v:=by
 obtain⟨vs,h1,h2⟩:=Jl7 hs hw fn.results.toList hin hr.1
 have hle:=hr.2
 suffices hsuf:∃ v,(results fn a.tmps).run Γ.P e.w=.ok v e.w∧R1 e.w e.S (Jfn (fn.results.toList.map fun r=>(Jb8 Γ.P σ h r).2)) v by
  obtain⟨v,k1,k2⟩:=hsuf
  exact⟨v,k1,JCp hle k2⟩
 have hd:Jfn (fn.results.toList.map fun r=>(Jb8 Γ.P σ h r).2)=Jfn (fn.results.toList.map fun r=>(Jb8 Γ.P σ h r).2):=rfl
 generalize hdd:Jfn (fn.results.toList.map fun r=>(Jb8 Γ.P σ h r).2)=d at hd ⊢
 have hd:=hdd
 have hrun:(fn.results.mapM fun r=>(match r with | .tmp t=>pure (a.tmps.getD t undef) | .cell x ty=>do loadVar ty (← asAddr (a.tmps.getD x undef)):Sem Value)).run Γ.P e.w=.ok vs.toArray e.w:=by
  rw[Array.mapM_eq_mapM_toList,Sem.run_map,h1]; rfl
 refine⟨if h:vs.toArray.size=1 then vs.toArray[0] else .tuple vs.toArray,?_,?_⟩
 ·unfold results
  rw[Sem.run_bind]
  erw [hrun]
  rfl
 generalize (fn.results.toList.map fun r=>(Jb8 Γ.P σ h r).2)=ds at h2 hd
 cases ds with
 | nil=>cases h2; subst hd; exact .tu _ _ .anil
 | cons x ds =>
  cases ds with
  | nil =>
   cases h2 with
   | acons _ v _ vs h3 h4=>cases h4; subst hd; simpa [Jfn] using h3
  | cons y ds =>
   cases h2 with
   | acons _ v _ vs h3 h4 =>
    cases h4 with
    | acons _ u _ us h5 h6 =>
     subst hd
     simp only[Jfn]
     rw[dif_neg (by simp)]
     exact .tu _ _ (.acons _ _ _ _ h3 (.acons _ _ _ _ h5 h6))
def QRet(P:Program)(fn:Func)(d:D):Kl:=fun ex σ h =>
 match ex with
 | .ret=>aRet P fn.results.toList σ h d∧dfL (σ DS)=[]
 | .normal=>aRet P fn.results.toList σ h d∧dfL (σ DS)=[]
 | _=>False
def Je7(P:Program)(rt:Nat)(fn:Func)(d:D):Kl:=fun ex σ h=>∃ σ' h',Wk rt σ h σ' h'∧QRet P fn d ex σ' h'
theorem Jxt{t:Tab}{pure:Nat→Nat}(ht:TabOk t)(hm:t.P.follows .mixedOrders=true)(hpure:∀ n,pure n=0→(t.Φ n).isSome)(hnp:∀ n,pure n=1→∀ g,t.G n g→∃ val bs ts,g.out=.ret val bs ts){f:Nat}{fn:Func}{c:Code}(hf:t.P.funcs[f]? = some fn)(hb:fn.body=some c)
  (hcode:(Kd pure t.lk fn.ntmps c && fn.results.toList.all (VW fn.ntmps) && fn.ntmps.ble DS)=true) (pf:PF)
  (h:∀ args,pf.pre args→args.length≤fn.ntmps∧t.rt=0∧∃ σ h,Wk t.rt (sig0 (args.map fun d=>.c (.d d))) hp0 σ h∧(h.Good→aC t c σ h (Je7 t.P t.rt fn (pf.val args)))):JF t.P f pf:=by
 simp only[Bool.and_eq_true]at hcode
 intro w S args vs hG hargs hS hp
 obtain⟨hn,hrt,σ1,h1,hwk,hC⟩:=h args hp
 have hlen:=hargs.length
 refine calls_of_wp hf hb ?_
 let Γ:Ctx:=⟨t.P,w,w.heap.size,S,fun _=>False,fn.ntmps,[],[]⟩
 let e:Env:=⟨w,S,fun _=>none,fun _=>none⟩
 have hw:WInv Γ hp0 e:=by
  constructor
  ·exact⟨hG,fun q hq=>⟨let ⟨_,_,h1,_⟩:=hG q hq; (Array.getElem?_eq_some_iff.1 h1).1,fun h=>h⟩⟩
  ·rfl
  ·rfl
  ·rfl
  ·exact Nat.le_refl _
  ·exact Nat.le_refl _
  ·intro b _ _; rfl
  ·exact hS
  ·intro b o h _; exact h
  ·exact hS
  ·exact Keep.refl _ _
  ·intro n row h; cases h
  ·intro n m b h; exact absurd rfl h
  ·intro k ty h; cases h
  ·intro k m v u b h; exact absurd rfl h
  ·intro n _; exact⟨rfl,rfl,rfl,rfl⟩
  ·exact Nat.one_pos
  exact⟨Nat.one_pos,fun i x hx=>by simp[Γ]at hx⟩
 have hs:Jv Γ.nt Γ.ds (sig0 (args.map fun d=>.c (.d d))) { tmps:=(⟨vs⟩:Array Value)++Array.replicate (fn.ntmps-(⟨vs⟩:Array Value).size) undef,defers:=[] } e:=by
  refine⟨by simp[hlen,Γ]; omega,⟨⟨[],rfl,by rw[JoL (by simp; have:=Nat.le_of_ble_eq_true hcode.2; omega)]; trivial⟩,Nat.le_of_ble_eq_true hcode.2⟩,fun i hi=>?_⟩
  rcases Nat.lt_or_ge i args.length with hlt | hge
  ·obtain⟨v,h1,h2⟩:=hargs.get i args[i] (List.getElem?_eq_getElem hlt)
   have e1:sig0 (args.map fun d=>AV.c (.d d)) i=.c (.d args[i]):=by simp[sig0,hlt]
   have e2:((⟨vs⟩:Array Value)++Array.replicate (fn.ntmps-(⟨vs⟩:Array Value).size) undef).getD i undef=v:=by
    have hiv:i<vs.length:=by omega
    simp only[Array.getD_eq_getD_getElem?]
    rw[Array.getElem?_append_left (by simpa using hiv)]
    simp[h1]
   rw[e1,e2]
   exact h2
  have e1:sig0 (args.map fun d=>AV.c (.d d)) i=KP:=by simp[sig0,hge]
  have e2:((⟨vs⟩:Array Value)++Array.replicate (fn.ntmps-(⟨vs⟩:Array Value).size) undef).getD i undef=undef:=by
   simp only[Array.getD_eq_getD_getElem?]
   rw[Array.getElem?_append_right (by simp; omega),Array.getElem?_replicate]
   split <;> rfl
  rw[e1,e2]
  exact RA.undef e
 obtain⟨e1,he1,hs1,hw1⟩:=hwk Γ _ e hrt.symm hs hw
 have he1':e1.w=w:=he1
 suffices hsuf:∀ w1,w1=e1.w→c.wp t.P (bodyPost t.P fn (fun en w'=>∃ v,en=Ending.returned v∧Grows w w'∧R1 w' S (pf.val args) v)) { tmps:=(⟨vs⟩:Array Value)++Array.replicate (fn.ntmps-(⟨vs⟩:Array Value).size) undef,defers:=[] } w1 from hsuf w he1'.symm
 rintro _ rfl
 refine Jaa (Γ:=Γ) (t:=t) (pure:=pure) ht rfl hrt.symm hm hpure hnp c _ _ hcode.1.1 (fun ex σ h a e2 hk hs2 hw2=>?_) _ _ _ e1 (hC hw1.good) hs1 hw1
 obtain⟨σ,h,hwk,hk⟩:=hk
 obtain⟨e',he',hs',hw'⟩:=hwk Γ a e2 hrt.symm hs2 hw2
 rw[← he']
 have fin:aRet t.P fn.results.toList σ h (pf.val args)∧dfL (σ DS)=[]→a.defers=[]∧∃ v,(results fn a.tmps).run t.P e'.w=.ok v e'.w∧∃ v',Ending.returned v=.returned v'∧Grows w e'.w∧R1 e'.w S (pf.val args) v':=fun hr=>by
  obtain⟨v,h1,h2⟩:=Jjs (Γ:=Γ) hs' hw' hcode.1.2 hr.1
  refine⟨hs'.2.1.1.nil hr.2,v,h1,v,rfl,⟨hw'.os,hw'.tape,hw'.output,hw'.grown,fun k hk=>hw'.old k hk (fun h=>h.elim)⟩,RD.mono (fun b o x hc hS'=>⟨hc,fun h=>hS' (hw'.s0 b o h (fun h=>h.elim))⟩) h2⟩
 cases ex with
 | normal=>exact fin hk
 | ret=>exact fin hk
 | exit id=>exact hk.elim
 | goto l=>exact hk.elim
 | panic ch=>exact hk.elim
 | outgrown=>exact hk.elim
end Go.Proofs.YtfkhlbhjhdpkoaaGreatDoor
namespace Go.Proofs.YtfkhlbhjhdpkoaaGreatDoor
open Go.RowKit
structure RdO where
 dst:Option Tmp
 op:Op
 g:Option (Tmp×Bool)
def roOf(ops:Array Oper)(o:Oper):RdO:=⟨o.dst,o.op,match o.guard with | none=>none | some (j,want)=>match JeW ops j with | none=>none | some d=>some (d,want)⟩
def V1(ops:Array Oper)(o:Oper):Bool:=match o.guard with | none=>true | some (j,_)=>(JeW ops j).isSome
def JeB(p:Bool):AV:=.c (.d (.v (.bool p)))
def aGd(σ:Nat→AV)(g:Option (Tmp×Bool))(run skip:(Nat→AV)→Prop):Prop :=
 match g with
 | none=>run σ
 | some (d,want)=>match σ d with
  | .c (.d (.v (.bool p)))=>(p=want→run (upd σ d (JeB want)))∧(p=!want→skip (upd σ d (JeB !want)))
  | .c (.d (.v (.tuple _)))=>skip σ
  | _=>False
def aRO(t:Tab)(K:(Nat→AV)→Hp→Prop):List RdO→(Nat→AV)→Hp→Prop
 | [],σ,h=>K σ h
 | o::l,σ,h=>aGd σ o.g (fun σ=>(aop t.P t.Φ t.Ψ o.op σ h).pre∧aRO t K l (putA σ o.dst (aop t.P t.Φ t.Ψ o.op σ h).val) (aop t.P t.Φ t.Ψ o.op σ h).h) (fun σ=>aRO t K l (putA σ o.dst KP) h)
theorem Jhg{σ:Nat→AV}{d:Nat}{p q:Bool}(h:σ d=.c (.d (.v (.bool p))))(hp:p=q):upd σ d (JeB q)=σ:=by
 funext i
 by_cases hi:i=d
 ·subst hi; simp[upd,JeB,h,hp]
 simp[upd,hi]
def aRG(t:Tab)(K:(Nat→AV)→Hp→Prop)(Kp:Value→Hp→Prop):List RdO→(Nat→AV)→Hp→Prop
 | [],σ,h=>K σ h
 | o::l,σ,h=>aGd σ o.g (fun σ=>aRun t o.op o.dst (aRG t K Kp l) Kp σ h) (fun σ=>aRG t K Kp l (putA σ o.dst KP) h)
theorem Ji0{t:Tab}{ops:Array Oper}{K:(Nat→AV)→Hp→Prop}{Kp:Value→Hp→Prop}:∀ (l:List Oper) (σ:Nat→AV) (h:Hp),(l.all (V1 ops))=true→aRG t K Kp (l.map (roOf ops)) σ h→aOps t ops K Kp l σ h
 | [],_,_,_,hh=>hh
 | o::l,σ,h,hg,hh=>by
  simp only[List.all_cons,Bool.and_eq_true]at hg
  simp only[List.map_cons,aRG]at hh
  simp only[aOps,aOp]
  have ih:=fun σ h=>Ji0 (K:=K) (Kp:=Kp) (t:=t) (ops:=ops) l σ h hg.2
  have h1:=hg.1
  unfold V1 at h1
  unfold aGd roOf at hh
  unfold JN
  split
  ·rename_i hgd; rw[hgd]at hh; exact V5 (fun _ _=>ih _ _) (fun _ _ x=>x) hh
  rename_i j want hgd
  rw[hgd]at hh h1
  simp only at hh h1
  split
  ·rename_i hs; rw[hs]at h1; cases h1
  rename_i d hs
  rw[hs]at hh
  simp only at hh
  split
  ·rename_i p hp
   rw[hp]at hh
   refine⟨fun x=>?_,fun x=>?_⟩
   ·have:=hh.1 x
    rw[Jhg hp x]at this
    exact V5 (fun _ _=>ih _ _) (fun _ _ x=>x) this
   have:=hh.2 x
   rw[Jhg hp x]at this
   exact ih _ _ this
  ·rename_i hp; rw[hp]at hh; exact ih _ _ hh
  rename_i h2 h3
  split at hh
  ·rename_i p hp; exact(h2 _ hp).elim
  ·rename_i vs hp; exact(h3 _ hp).elim
  exact hh.elim
theorem Jk0{t:Tab}{op:Op}{σ:Nat→AV}{h:Hp}(hp:(aop t.P t.Φ t.Ψ op σ h).pre):JM t σ op=none∧¬ isDP op=true:=by
 refine⟨?_,fun hd=>?_⟩
 ·cases hg:JM t σ op with
  | none=>rfl
  | some x =>
   exfalso
   unfold JM at hg
   split at hg
   case h_2=>cases hg
   rename_i c
   obtain⟨callee,args,ts⟩:=c
   simp only at hg
   split at hg
   case h_2=>cases hg
   rename_i f
   simp only[aop,Jfd]at hp
   split at hg
   ·rename_i n fs cs hev
    split at hg
    case isFalse=>cases hg
    rename_i hc
    rw[hev]at hp
    simp only[Option.isNone_iff_eq_none]at hc
    simp only[hc.2.2.1,hc.2.2.2]at hp
    exact hp
   ·rename_i n ns hev
    rw[hev]at hp
    exact hp
   cases hg
 cases op <;> first | (cases hd; done) | exact hp
theorem Jid{t:Tab}{K:(Nat→AV)→Hp→Prop}{Kp:Value→Hp→Prop}{l2:List RdO}:∀ {l1:List RdO} {σ:Nat→AV} {h:Hp},aRO t (aRG t K Kp l2) l1 σ h→aRG t K Kp (l1++l2) σ h
 | [],_,_,hh=>hh
 | o::l1,σ,h,hh=>by
  simp only[aRO,aRG,List.cons_append]at hh ⊢
  unfold aGd at *
  have run:∀ σ,((aop t.P t.Φ t.Ψ o.op σ h).pre∧aRO t (aRG t K Kp l2) l1 (putA σ o.dst (aop t.P t.Φ t.Ψ o.op σ h).val) (aop t.P t.Φ t.Ψ o.op σ h).h)→aRun t o.op o.dst (aRG t K Kp (l1++l2)) Kp σ h:=fun σ x=>by
   obtain⟨q1,q2⟩:=Jk0 x.1
   unfold aRun
   rw[q1]
   simp only
   rw[if_neg q2]
   exact⟨x.1,Jid x.2⟩
  split at hh
  ·exact run _ hh
  split at hh
  ·exact⟨fun x=>run _ (hh.1 x),fun x=>Jid (hh.2 x)⟩
  ·exact Jid hh
  exact hh.elim
theorem Jho{t:Tab}{K K':(Nat→AV)→Hp→Prop}(hk:∀ σ h,K σ h→K' σ h):∀ {l:List RdO} {σ:Nat→AV} {h:Hp},aRO t K l σ h→aRO t K' l σ h
 | [],_,_,hh=>hk _ _ hh
 | o::l,σ,h,hh=>by
  simp only[aRO]at hh ⊢
  unfold aGd at *
  split at hh
  ·exact⟨hh.1,Jho hk hh.2⟩
  split at hh
  ·exact⟨fun x=>⟨(hh.1 x).1,Jho hk (hh.1 x).2⟩,fun x=>Jho hk (hh.2 x)⟩
  ·exact Jho hk hh
  exact hh.elim
theorem JyY{t:Tab}{K:(Nat→AV)→Hp→Prop}{Kp:Value→Hp→Prop}{l:List RdO}{σ:Nat→AV}{h:Hp}(hh:aRO t K l σ h):aRG t K Kp l σ h:=by
 have:=Jid (l2:=[]) (K:=K) (Kp:=Kp) (l1:=l) (Jho (fun _ _ x=>x) hh)
 simpa using this
def JsH(r:AR)(t:Tab)(K:(Nat→AV)→Hp→Prop)(dst:Option Tmp)(l:List RdO)(σ:Nat→AV):Prop:=r.pre∧aRO t K l (putA σ dst r.val) r.h
def aGdS(v:AV)(d:Tmp)(w:Bool)(t:Tab)(K:(Nat→AV)→Hp→Prop)(dst:Option Tmp)(op:Op)(l:List RdO)(σ:Nat→AV)(h:Hp):Prop :=
 match v with
 | .c (.d (.v (.bool p)))=>(p=w→JsH (aop t.P t.Φ t.Ψ op (upd σ d (JeB w)) h) t K dst l (upd σ d (JeB w)))∧(p=!w→aRO t K l (putA (upd σ d (JeB !w)) dst KP) h)
 | .c (.d (.v (.tuple _)))=>aRO t K l (putA σ dst KP) h
 | _=>False
theorem JvM(t:Tab)(K:(Nat→AV)→Hp→Prop)(σ:Nat→AV)(h:Hp):aRO t K [] σ h=K σ h:=rfl
theorem Jtg(t:Tab)(K:(Nat→AV)→Hp→Prop)(dst:Option Tmp)(op:Op)(l:List RdO)(σ:Nat→AV)(h:Hp):aRO t K (⟨dst,op,none⟩::l) σ h=JsH (aop t.P t.Φ t.Ψ op σ h) t K dst l σ:=rfl
theorem JuB(t:Tab)(K:(Nat→AV)→Hp→Prop)(dst:Option Tmp)(op:Op)(d:Tmp)(w:Bool)(l:List RdO)(σ:Nat→AV)(h:Hp):aRO t K (⟨dst,op,some (d,w)⟩::l) σ h=aGdS (σ d) d w t K dst op l σ h:=rfl
theorem JtV(p:Prop)(v:AV)(h:Hp)(t:Tab)(K:(Nat→AV)→Hp→Prop)(dst:Option Tmp)(l:List RdO)(σ:Nat→AV):JsH ⟨p,v,h⟩ t K dst l σ=(p∧aRO t K l (putA σ dst v) h):=rfl
theorem Jr6(p:Bool)(d:Tmp)(w:Bool)(t:Tab)(K:(Nat→AV)→Hp→Prop)(dst:Option Tmp)(op:Op)(l:List RdO)(σ:Nat→AV)(h:Hp):
  aGdS (.c (.d (.v (.bool p)))) d w t K dst op l σ h=if p=w then JsH (aop t.P t.Φ t.Ψ op (upd σ d (JeB w)) h) t K dst l (upd σ d (JeB w)) else aRO t K l (putA (upd σ d (JeB !w)) dst KP) h:=by
 cases p <;> cases w <;> simp[aGdS]
theorem Jtl(vs:Array Value)(d:Tmp)(w:Bool)(t:Tab)(K:(Nat→AV)→Hp→Prop)(dst:Option Tmp)(op:Op)(l:List RdO)(σ:Nat→AV)(h:Hp):
  aGdS (.c (.d (.v (.tuple vs)))) d w t K dst op l σ h=aRO t K l (putA σ dst KP) h:=rfl
theorem JmH(d:Tmp)(w:Bool)(t:Tab)(K:(Nat→AV)→Hp→Prop)(dst:Option Tmp)(op:Op)(l:List RdO)(σ:Nat→AV)(h:Hp):
  aGdS (.c (.d (.v undef))) d w t K dst op l σ h=aRO t K l (putA σ dst KP) h:=rfl
def Then(t:Tab)(b:Code)(Q:Kl):Kl:=fun ex σ h=>match ex with | .normal=>∃ σ2 h2,Wk t.rt σ h σ2 h2∧Given h2.Good (aC t b σ2 h2 Q) | ex=>Q ex σ h
def Jc8(id:Nat)(Q:Kl):Kl:=fun ex σ h=>match ex with | .exit j=>if j=id then Q .normal σ h else Q (.exit j) σ h | ex=>Q ex σ h
def JnJ(rt n:Nat)(I:Nat→(Nat→AV)→Hp→Prop)(Q:Kl):Kl:=fun ex σ h=>match ex with | .normal=>∃ m σ3 h3,m<n∧Wk rt σ h σ3 h3∧I m σ3 h3 | ex=>Q ex σ h
def Cut(rt:Nat)(R:(Nat→AV)→Hp→Prop)(Q:Kl):Kl:=fun ex σ h=>match ex with | .normal=>∃ σ2 h2,Wk rt σ h σ2 h2∧R σ2 h2 | ex=>Q ex σ h
variable {t:Tab} {σ:Nat→AV} {h:Hp} {Q:Kl}
theorem Vl{a b:Code}(hh:aC t a σ h (Then t b Q)):aC t (.seq a b) σ h Q:=hh
theorem Jbd(hh:Q .normal σ h):aC t .skip σ h Q:=hh
theorem JCY(hh:Q .ret σ h):aC t .ret σ h Q:=hh
theorem Jth{id:Nat}(hh:Q (.exit id) σ h):aC t (.exit id) σ h Q:=hh
theorem JaS{id:Nat}{b:Code}(hh:aC t b σ h (Jc8 id Q)):aC t (.block id b) σ h Q:=hh
theorem Joq{c:Operand}{x y:Code}(hc:evA σ c=.c (.d (.v (.bool true))))(hx:aC t x σ h Q):aC t (.cond c x y) σ h Q:=by
 simp only[aC,hc]; exact⟨fun _=>hx,fun h=>by cases h⟩
theorem JoB{c:Operand}{x y:Code}(hc:evA σ c=.c (.d (.v (.bool false))))(hx:aC t y σ h Q):aC t (.cond c x y) σ h Q:=by
 simp[aC,hc]; exact hx
theorem JiC{id:Nat}{ops:Array Oper}{draw:Bool}(hl:(draw && t.lk.contains id)=false)(hg:(ops.toList.all (V1 ops))=true)(hh:∀ K:(Nat→AV)→Hp→Prop,(∀ σ h,Q .normal σ h→K σ h)→aRO t K (ops.toList.map (roOf ops)) σ h):aC t (.region id ops draw) σ h Q :=
 ⟨σ,h,Wk.refl _ _ _,.inl (JmY hl (Ji0 _ _ _ hg (JyY (hh _ fun _ _ x=>x))))⟩
theorem JqJ{id:Nat}{ops:Array Oper}{draw:Bool}(hl:(draw && t.lk.contains id)=false)(hg:(ops.toList.all (V1 ops))=true)(hh:aRG t (Q .normal) (fun v h'=>Q (.panic [{ v:=v,recovered:=false }]) (Ku ops σ) h') (ops.toList.map (roOf ops)) σ h):aC t (.region id ops draw) σ h Q :=
 ⟨σ,h,Wk.refl _ _ _,.inl (JmY hl (Ji0 _ _ _ hg hh))⟩
theorem Jl{b:Code}(hh:aC t b σ h Q):Then t b Q .normal σ h:=⟨σ,h,Wk.refl _ _ _,⟨fun _=>hh⟩⟩
theorem Jz8{b:Code}(hh:Q .ret σ h):Then t b Q .ret σ h:=hh
theorem JkA{b:Code}{i:Nat}(hh:Q (.exit i) σ h):Then t b Q (.exit i) σ h:=hh
theorem JkG{id:Nat}(hh:Q .normal σ h):Jc8 id Q .normal σ h:=hh
theorem Jyh{id:Nat}(hh:Q .ret σ h):Jc8 id Q .ret σ h:=hh
theorem Ji3{id:Nat}(hh:Q .normal σ h):Jc8 id Q (.exit id) σ h:=by simp only[Jc8,if_true]; exact hh
theorem Ju8{id j:Nat}(hne:(j == id)=false)(hh:Q (.exit j) σ h):Jc8 id Q (.exit j) σ h:=by
 have:j≠id:=by simpa using hne
 simp only[Jc8,this,if_false]; exact hh
theorem JxZ{rt:Nat}{n:Nat}{I:Nat→(Nat→AV)→Hp→Prop}(hh:Q .ret σ h):JnJ rt n I Q .ret σ h:=hh
theorem Jjh{rt:Nat}{n i:Nat}{I:Nat→(Nat→AV)→Hp→Prop}(hh:Q (.exit i) σ h):JnJ rt n I Q (.exit i) σ h:=hh
theorem JBX{rt:Nat}{R:(Nat→AV)→Hp→Prop}(hh:Q .ret σ h):Cut rt R Q .ret σ h:=hh
theorem JzB{rt:Nat}{R:(Nat→AV)→Hp→Prop}{i:Nat}(hh:Q (.exit i) σ h):Cut rt R Q (.exit i) σ h:=hh
theorem Je0{t:Tab}:∀ (c:Code) (σ:Nat→AV) (h:Hp) (Q Q':Kl),(∀ ex σ h,Q ex σ h→Q' ex σ h)→aC t c σ h Q→aC t c σ h Q'
 | .skip,σ,h,Q,Q',hQ,hh=>hQ _ _ _ hh
 | .region id ops draw,σ,h,Q,Q',hQ,⟨σ1,h1,hwk,hh⟩=>⟨σ1,h1,hwk,hh.imp (Jx8 (fun σ h hk=>hQ _ _ _ hk) (fun v h hk=>hQ _ _ _ hk)) fun⟨σ2,h2,x,y⟩=>⟨σ2,h2,x,hQ _ _ _ y⟩⟩
 | .seq a b,σ,h,Q,Q',hQ,hh=>by
  refine Je0 a σ h _ _ (fun ex σ h hk=>?_) hh
  cases ex with
  | normal =>
   obtain⟨σ2,h2,hwk,hk⟩:=hk
   exact⟨σ2,h2,hwk,⟨fun hg=>Je0 b σ2 h2 Q Q' hQ (hk.get hg)⟩⟩
  | exit id=>exact hQ _ _ _ hk
  | goto l=>exact hQ _ _ _ hk
  | ret=>exact hQ _ _ _ hk
  | panic ch=>exact hQ _ _ _ hk
  | outgrown=>exact hQ _ _ _ hk
 | .cond c x y,σ,h,Q,Q',hQ,hh=>by
  simp only[aC]at hh ⊢
  split at hh
  ·exact⟨fun p=>Je0 x σ h Q Q' hQ (hh.1 p),fun p=>Je0 y σ h Q Q' hQ (hh.2 p)⟩
  exact hh
 | .block id b,σ,h,Q,Q',hQ,hh=>by
  refine Je0 b σ h _ _ (fun ex σ h hk=>?_) hh
  cases ex with
  | normal=>exact hQ _ _ _ hk
  | exit j =>
   simp only at hk ⊢
   split
   ·rename_i hj; rw[if_pos hj]at hk; exact hQ _ _ _ hk
   rename_i hj; rw[if_neg hj]at hk; exact hQ _ _ _ hk
  | goto l=>exact hQ _ _ _ hk
  | ret=>exact hQ _ _ _ hk
  | panic ch=>exact hQ _ _ _ hk
  | outgrown=>exact hQ _ _ _ hk
 | .loop b,σ,h,Q,Q',hQ,hh=>by
  obtain⟨I,h0,hr⟩:=hh
  refine⟨I,h0,fun n σ' h' hI hg=>Je0 b σ' h' _ _ (fun ex σ h hk=>?_) (hr n σ' h' hI hg)⟩
  cases ex with
  | normal=>exact hk
  | exit id=>exact hQ _ _ _ hk
  | goto l=>exact hQ _ _ _ hk
  | ret=>exact hQ _ _ _ hk
  | panic ch=>exact hQ _ _ _ hk
  | outgrown=>exact hQ _ _ _ hk
 | .exit id,σ,h,Q,Q',hQ,hh=>hQ _ _ _ hh
 | .ret,σ,h,Q,Q',hQ,hh=>hQ _ _ _ hh
 | .rangeFunc _ _ _ _,_,_,_,_,_,hh=>hh.elim
 | .scope _,_,_,_,_,_,hh=>hh.elim
 | .label _,_,_,_,_,_,hh=>hh.elim
 | .goto _,_,_,_,_,_,hh=>hh.elim
 | .refuse _,_,_,_,_,_,hh=>hh.elim
theorem JCu{a b:Code}(R:(Nat→AV)→Hp→Prop)(ha:aC t a σ h (Cut t.rt R Q))(hb:∀ σ h,R σ h→aC t b σ h Q):aC t (.seq a b) σ h Q:=by
 refine Je0 a σ h _ _ (fun ex σ h hk=>?_) ha
 cases ex with
 | normal =>
  obtain⟨σ2,h2,hwk,hR⟩:=hk
  exact⟨σ2,h2,hwk,⟨fun _=>hb σ2 h2 hR⟩⟩
 | exit id=>exact hk
 | goto l=>exact hk
 | ret=>exact hk
 | panic ch=>exact hk
 | outgrown=>exact hk
def At{S R:Type}(J:S→Option R)(L:S→List (Nat×AV))(B:S→List (List C))(ts:List TypeId)(out:R)(σ:Nat→AV)(h:Hp):Prop :=
 ∃ s,σ=sigL (L s)∧h=hpL (B s) ts∧J s=some out
theorem Jp{S R:Type}{a b:Code}(J:S→Option R)(L:S→List (Nat×AV))(B:S→List (List C))(ts:List TypeId)(out:R)
  (ha:aC t a σ h (Cut t.rt (At J L B ts out) Q)) (hb:∀ s,J s=some out→aC t b (sigL (L s)) (hpL (B s) ts) Q):aC t (.seq a b) σ h Q :=
 JCu _ ha (by rintro σ h ⟨s,rfl,rfl,hJ⟩; exact hb s hJ)
theorem Jb{rt:Nat}{S R:Type}{J:S→Option R}{L:S→List (Nat×AV)}{B:S→List (List C)}{ts:List TypeId}{out:R}{s:S}(hJ:J s=some out)
  (hwk:Wk rt σ h (sigL (L s)) (hpL (B s) ts)):Cut rt (At J L B ts out) Q .normal σ h:=⟨_,_,hwk,s,rfl,rfl,hJ⟩
section
variable {S R:Type}
inductive Itn (b:S→Option (S ⊕ R)):Nat→S→R→Prop
 | done {s:S} {r:R}:b s=some (.inr r)→Itn b 0 s r
 | step {n:Nat} {s s':S} {r:R}:b s=some (.inl s')→Itn b n s' r→Itn b (n+1) s r
theorem Itn.det{b:S→Option (S ⊕ R)}{n m:Nat}{s:S}{r r':R}(h:Itn b n s r)(k:Itn b m s r'):r=r':=by
 induction h generalizing m with
 | done h =>
  cases k with
  | done k=>rw[h]at k; simpa using k
  | step k _=>rw[h]at k; simp at k
 | step h _ ih =>
  cases k with
  | done k=>rw[h]at k; simp at k
  | step k k2=>rw[h]at k; simp at k; subst k; exact ih k2
open Classical in
noncomputable def JlE(b:S→Option (S ⊕ R))(s:S):Option R:=if h:∃ r n,Itn b n s r then some (Classical.choose h) else none
theorem JmO{b:S→Option (S ⊕ R)}{s:S}{r:R}:JlE b s=some r↔∃ n,Itn b n s r:=by
 unfold JlE
 constructor
 ·intro h
  split at h
  ·rename_i hx
   simp at h
   rw[← h]
   exact Classical.choose_spec hx
  cases h
 rintro ⟨n,h⟩
 have hx:∃ r n,Itn b n s r:=⟨r,n,h⟩
 rw[dif_pos hx]
 obtain⟨m,hm⟩:=Classical.choose_spec hx
 rw[hm.det h]
theorem Jxo{b:S→Option (S ⊕ R)}{s:S}(h:∀ r n,¬ Itn b n s r):JlE b s=none:=by
 unfold JlE
 rw[dif_neg]
 rintro ⟨r,n,k⟩
 exact h r n k
def bigF:Nat:=18446744073709551616
theorem JBk:2 ^ 64≤bigF:=Nat.le_refl _
noncomputable def Jw4{S R:Type}(b:S→Option (S ⊕ R))(n:Nat):S→Option R :=
 Nat.rec (fun _=>none) (fun _ ih s=>match b s with | none=>none | some (.inl s')=>ih s' | some (.inr r)=>some r) n
theorem Jmz{b:S→Option (S ⊕ R)}{r:R}:∀ {n:Nat} {s:S},Jw4 b n s=some r→∃ k,Itn b k s r
 | 0,s,h=>by cases h
 | n+1,s,h=>by
  have h:(match b s with | none=>none | some (.inl s')=>Jw4 b n s' | some (.inr r)=>some r)=some r:=h
  split at h
  ·cases h
  ·rename_i s' hs
   obtain⟨k,hk⟩:=Jmz h
   exact⟨k+1,.step hs hk⟩
  rename_i r' hs
  cases h
  exact⟨0,.done hs⟩
noncomputable def Jt(b:S→Option (S ⊕ R))(s:S):Option R:=match Jw4 b bigF s with | some r=>some r | none=>JlE b s
theorem Jvv(b:S→Option (S ⊕ R))(s:S):Jt b s=JlE b s:=by
 unfold Jt
 split
 ·rename_i r h
  exact(JmO.2 (Jmz h)).symm
 rfl
theorem Jfu{b:S→Option (S ⊕ R)}{s:S}{r:R}:Jt b s=some r↔∃ n,Itn b n s r:=by rw[Jvv]; exact JmO
theorem Jm7{b:S→Option (S ⊕ R)}{s:S}(h:∀ r n,¬ Itn b n s r):Jt b s=none:=by rw[Jvv]; exact Jxo h
theorem Kv(b:S→Option (S ⊕ R))(s:S):Jt b s=match b s with | none=>none | some (.inl s')=>Jt b s' | some (.inr r)=>some r:=by
 split
 ·rename_i h
  refine Jm7 fun r n k=>?_
  cases k with
  | done k=>rw[h]at k; cases k
  | step k _=>rw[h]at k; cases k
 ·rename_i s' h
  cases hl:Jt b s' with
  | some r =>
   obtain⟨n,hn⟩:=Jfu.1 hl
   exact Jfu.2 ⟨n+1,.step h hn⟩
  | none =>
   refine Jm7 fun r n k=>?_
   cases k with
   | done k=>rw[h]at k; simp at k
   | step k k2 =>
    rw[h]at k; simp at k; subst k
    rw[Jfu.2 ⟨_,k2⟩]at hl
    cases hl
 rename_i r h
 exact Jfu.2 ⟨0,.done h⟩
theorem JnZ{b:S→Option (S ⊕ R)}(I:S→Prop)(μ:S→Nat)(post:R→Prop)
  (h:∀ s,I s→∃ o,b s=some o∧(match o with | .inl s'=>I s'∧μ s'<μ s | .inr r=>post r)):∀ s,I s→∃ r,Jt b s=some r∧post r:=by
 intro s hs
 generalize hn:μ s=n
 induction n using Nat.strongRecOn generalizing s with
 | ind n ih =>
  obtain⟨o,ho,hp⟩:=h s hs
  cases o with
  | inl s' =>
   obtain⟨r,h1,h2⟩:=ih (μ s') (by omega) s' hp.1 rfl
   exact⟨r,by rw[Kv,ho]; exact h1,h2⟩
  | inr r=>exact⟨r,by rw[Kv,ho],hp⟩
def Fin'(b:S→Option (S ⊕ R))(n:Nat)(o:S ⊕ R)(out:R):Prop:=match o with | .inl s'=>∃ m,m<n∧Itn b m s' out | .inr r=>r=out
theorem Itn.inv{b:S→Option (S ⊕ R)}{n:Nat}{s:S}{out:R}(h:Itn b n s out):∃ o,b s=some o∧Fin' b n o out:=by
 cases h with
 | done h=>exact⟨_,h,rfl⟩
 | step h k=>exact⟨_,h,_,Nat.lt_succ_self _,k⟩
def LI(b:S→Option (S ⊕ R))(L:S→List (Nat×AV))(B:S→List (List C))(ts:List TypeId)(out:R)(n:Nat)(σ:Nat→AV)(h:Hp):Prop :=
 ∃ s,σ=sigL (L s)∧h=hpL (B s) ts∧Itn b n s out
theorem JZ{c:Code}(b:S→Option (S ⊕ R))(L:S→List (Nat×AV))(B:S→List (List C))(ts:List TypeId){s0:S}{out:R}(H:Jt b s0=some out)
  (hwk:Wk t.rt σ h (sigL (L s0)) (hpL (B s0) ts))
  (hr:∀ n s o,b s=some o→Fin' b n o out→aC t c (sigL (L s)) (hpL (B s) ts) (JnJ t.rt n (LI b L B ts out) Q)):aC t (.loop c) σ h Q:=by
 obtain⟨n,hn⟩:=Jfu.1 H
 refine⟨LI b L B ts out,⟨n,_,_,hwk,s0,rfl,rfl,hn⟩,?_⟩
 rintro n _ _ ⟨s,rfl,rfl,hI⟩ _
 obtain⟨o,h1,h2⟩:=hI.inv
 exact hr n s o h1 h2
def UnR(t:Tab)(c:Code)(Q:Kl):Nat→Kl
 | 0=>fun ex σ h=>match ex with | .normal=>False | ex=>Q ex σ h
 | k+1=>fun ex σ h=>match ex with | .normal=>aC t c σ h (UnR t c Q k) | ex=>Q ex σ h
theorem JBL{c:Code}{k:Nat}(hh:aC t c σ h (UnR t c Q k)):UnR t c Q (k+1) .normal σ h:=hh
theorem JCr{c:Code}{k:Nat}(hh:Q .ret σ h):UnR t c Q k .ret σ h:=by cases k <;> exact hh
theorem JB2{c:Code}{k i:Nat}(hh:Q (.exit i) σ h):UnR t c Q k (.exit i) σ h:=by cases k <;> exact hh
theorem JzY{c:Code}{k:Nat}{ch:List PanicEntry}(hh:Q (.panic ch) σ h):UnR t c Q k (.panic ch) σ h:=by cases k <;> exact hh
theorem JB{rt:Nat}{b:S→Option (S ⊕ R)}{L:S→List (Nat×AV)}{B:S→List (List C)}{ts:List TypeId}{out:R}{n:Nat}{s':S}(hF:Fin' b n (.inl s') out)
  (hwk:Wk rt σ h (sigL (L s')) (hpL (B s') ts)):JnJ rt n (LI b L B ts out) Q .normal σ h:=by
 obtain⟨m,hm,hI⟩:=hF
 exact⟨m,_,_,hm,hwk,s',rfl,rfl,hI⟩
def inrO(x:Option R):Option (S ⊕ R):=x.map .inr
theorem JxC{x:Option R}{o:S ⊕ R}(h:inrO x=some o):∃ r,x=some r∧o=.inr r:=by
 unfold inrO at h
 rw[Option.map_eq_some_iff]at h
 obtain⟨r,h1,h2⟩:=h
 exact⟨r,h1,h2.symm⟩
end
theorem Ja1{α:Type}{p:Bool}{A B o:Option α}(H:(if p=true then A else B)=o):(p=true∧A=o)∨(p=false∧B=o):=by
 cases p
 ·exact .inr ⟨rfl,by simpa using H⟩
 exact .inl ⟨rfl,by simpa using H⟩
theorem Jd{α:Type}{p:Prop} [Decidable p] {A:Option α} {o:α} (H:(if p then A else none)=some o):p∧A=some o:=by
 by_cases hp:p
 ·exact⟨hp,by simpa [hp] using H⟩
 simp[hp]at H
theorem Ji{α β:Type}{x:Option α}{f:α→Option β}{o:β}(H:x.bind f=some o):∃ a,x=some a∧f a=some o:=by
 cases x with
 | none=>simp at H
 | some a=>exact⟨a,rfl,H⟩
theorem Jh{α β:Type}(f:α→β)(l:List α)(n:Nat)(d:β)(e:α)(h:n<l.length):(l.map f).getD n d=f (l.getD n e):=by
 simp[List.getD_eq_getElem?_getD,List.getElem?_eq_getElem h]
def dI(n:Int):D:=.v (.int .i64 n)
def dB(b:Bool):D:=.v (.bool b)
def dE(b:Bool):D:=.ne b
def dS(l:List UInt8):D:=.v (str l)
def dU(c:UInt8):D:=.v (.int .u8 (c.toNat:Int))
def dL{α:Type}(sz:Nat)(e:α→D)(l:List α):D:=.sl sz (l.map e)
theorem JL(a b:Int)(h:dI a=dI b):a=b:=by simpa [dI] using h
theorem Xh(a b:Bool)(h:dB a=dB b):a=b:=by simpa [dB] using h
theorem VF(a b:List UInt8)(h:dS a=dS b):a=b:=by simpa [dS] using h
theorem Jyw(a b:UInt8)(h:dU a=dU b):a=b:=by
 simp only[dU,D.v.injEq,Value.int.injEq,true_and]at h
 exact UInt8.toNat_inj.1 (by omega)
theorem JuK{α β:Type}{f:α→β}(hf:∀ a b,f a=f b→a=b):∀ (l m:List α),l.map f=m.map f→l=m
 | [],[],_=>rfl
 | [],_::_,h=>by simp at h
 | _::_,[],h=>by simp at h
 | a::l,b::m,h=>by
  simp only[List.map_cons,List.cons.injEq]at h
  rw[hf a b h.1,JuK hf l m h.2]
theorem Jak{α:Type}{sz:Nat}{e:α→D}(he:∀ a b,e a=e b→a=b)(l m:List α)(h:dL sz e l=dL sz e m):l=m:=by
 simp only[dL,D.sl.injEq,true_and]at h
 exact JuK he l m h
theorem JvC(l:List UInt8):(l.map dU).map unU8=l:=by
 have:=JAI l
 exact this
theorem JxL(l:List UInt8):∃ bs,l.map dU=u8s bs:=⟨l,rfl⟩
theorem JQ{α:Type}{e:α→D}(he:∀ a,(e a).cells.all D.one=true)(l:List α):∀ y∈l.map e,y.cells.all D.one=true:=by
 intro y hy
 obtain⟨a,_,rfl⟩:=List.mem_map.1 hy
 exact he a
theorem Jno(a:Int):(dI a).cells.all D.one=true:=rfl
theorem Jif(a:List UInt8):(dS a).cells.all D.one=true:=rfl
theorem JCm(a:UInt8):(dU a).cells.all D.one=true:=rfl
open Classical in
noncomputable def PF.of{A R:Type}(enc:A→List D)(f:A→Option R)(e:R→D):PF :=
 ⟨fun l=>∃ a r,les1 l (enc a)∧f a=some r,fun l=>if h:∃ d,∃ a r,les1 l (enc a)∧f a=some r∧d=e r then Classical.choose h else .v undef⟩
def Inj{A:Type}(enc:A→List D):Prop:=∀ a b,(enc a).map Ke=(enc b).map Ke→a=b
theorem PF.of_prel{A R:Type}{enc:A→List D}{f:A→Option R}{e:R→D}{l:List D}{a:A}{r:R}(hl:les1 l (enc a))(H:f a=some r):(PF.of enc f e).pre l=True :=
 eq_true ⟨a,r,hl,H⟩
theorem PF.of_vall{A R:Type}{enc:A→List D}{f:A→Option R}{e:R→D}(inj:Inj enc){l:List D}{a:A}{r:R}(hl:les1 l (enc a))(H:f a=some r):(PF.of enc f e).val l=e r:=by
 have hx:∃ d,∃ a' r',les1 l (enc a')∧f a'=some r'∧d=e r':=⟨_,a,r,hl,H,rfl⟩
 simp only[PF.of]
 rw[dif_pos hx]
 obtain⟨a',r',h1,h2,h3⟩:=Classical.choose_spec hx
 rw[h3]
 have:=inj a a' ((JiA hl).symm.trans (JiA h1))
 subst this
 rw[H]at h2
 cases h2
 rfl
theorem PF.of_pre{A R:Type}{enc:A→List D}{f:A→Option R}{e:R→D}{a:A}{r:R}(H:f a=some r):(PF.of enc f e).pre (enc a)=True :=
 PF.of_prel (JhJ _) H
theorem PF.of_val{A R:Type}{enc:A→List D}{f:A→Option R}{e:R→D}(inj:Inj enc){a:A}{r:R}(H:f a=some r):(PF.of enc f e).val (enc a)=e r :=
 PF.of_vall inj (JhJ _) H
theorem JB6{A R:Type}{enc:A→List D}{f:A→Option R}{e:R→D}(inj:Inj enc){t:Tab}(hrt:t.rt=0){pure:Nat→Nat}(ht:TabOk t)(hm:t.P.follows .mixedOrders=true)(hpure:∀ n,pure n=0→(t.Φ n).isSome)(hnp:∀ n,pure n=1→∀ g,t.G n g→∃ val bs ts,g.out=.ret val bs ts)
  {k:Nat} {fn:Func} {c:Code} (hf:t.P.funcs[k]? = some fn) (hb:fn.body=some c) (hcode:(Kd pure t.lk fn.ntmps c && fn.results.toList.all (VW fn.ntmps) && fn.ntmps.ble DS)=true)
  (hl:∀ a,(enc a).length≤fn.ntmps)
  (h:∀ a r,f a=some r→aC t c (sig0 ((enc a).map fun d=>.c (.d d))) hp0 (Je7 t.P t.rt fn (e r))):JF t.P k (PF.of enc f e):=by
 have hx:∀ a r,f a=some r→JF t.P k ⟨fun l=>l=enc a,fun _=>e r⟩:=fun a r H=>by
  refine Jxt ht hm hpure hnp hf hb hcode _ ?_
  rintro args rfl
  exact⟨hl a,hrt,_,_,Wk.refl _ _ _,fun _=>h a r H⟩
 intro w S args vs hG hargs hS hp
 obtain⟨a,r,hle,H⟩:=hp
 have:=hx a r H w S (enc a) vs hG (Je2 hle hargs) hS rfl
 rwa [PF.of_vall inj hle H]
noncomputable def tab(P:Program)(l:List (Nat×PF))(gl:List (Nat×Bool×(GI→Prop)))(dl:List (Nat×(DI→Prop)))(rt:Nat)(lk:List Nat):Tab :=
 ⟨P,fun n=>l.lookup n,fun _=>none,rt,fun n g=>∃ p∈gl,p.1=n∧p.2.2 g,fun n d=>∃ p∈dl,p.1=n∧p.2 d,lk⟩
theorem Jnn{α:Type}:∀ {l:List (Nat×α)} {n:Nat} {x:α},l.lookup n=some x→(n,x)∈l
 | [],_,_,h=>by cases h
 | (k,y)::l,n,x,h=>by
  rw[List.lookup_cons]at h
  split at h
  ·rename_i hk; simp at hk h; subst hk; subst h; simp
  exact List.mem_cons_of_mem _ (Jnn h)
def Jd6(P:Program):List (Nat×PF)→Prop
 | []=>True
 | (k,pf)::l=>(Jc P k∧JF P k pf)∧Jd6 P l
def Jaf(P:Program):List (Nat×Bool×(GI→Prop))→Prop
 | []=>True
 | (k,np,S)::l=>(Jc P k∧(∀ g,S g→Jm P k g)∧(np=true→∀ g,S g→∃ val bs ts,g.out=.ret val bs ts))∧Jaf P l
def Jhc(P:Program):List (Nat×(DI→Prop))→Prop
 | []=>True
 | (k,S)::l=>(Jc P k∧∀ d,S d→DOk P k d)∧Jhc P l
theorem Jd6.mem{P:Program}:∀ {l:List (Nat×PF)},Jd6 P l→∀ p∈l,Jc P p.1∧JF P p.1 p.2
 | (_,_)::_,⟨h1,h2⟩,p,hp=>by
  rcases List.mem_cons.1 hp with rfl | hp
  ·exact h1
  exact Jd6.mem h2 p hp
theorem Jaf.mem{P:Program}:∀ {l:List (Nat×Bool×(GI→Prop))},Jaf P l→∀ p∈l,Jc P p.1∧(∀ g,p.2.2 g→Jm P p.1 g)∧(p.2.1=true→∀ g,p.2.2 g→∃ val bs ts,g.out=.ret val bs ts)
 | (_,_,_)::_,⟨h1,h2⟩,p,hp=>by
  rcases List.mem_cons.1 hp with rfl | hp
  ·exact h1
  exact Jaf.mem h2 p hp
theorem Jhc.mem{P:Program}:∀ {l:List (Nat×(DI→Prop))},Jhc P l→∀ p∈l,Jc P p.1∧∀ d,p.2 d→DOk P p.1 d
 | (_,_)::_,⟨h1,h2⟩,p,hp=>by
  rcases List.mem_cons.1 hp with rfl | hp
  ·exact h1
  exact Jhc.mem h2 p hp
theorem JkZ{P:Program}{l:List (Nat×PF)}{gl:List (Nat×Bool×(GI→Prop))}{dl:List (Nat×(DI→Prop))}{rt:Nat}{lk:List Nat}(h1:Jd6 P l)(h2:Jaf P gl)(h3:Jhc P dl):TabOk (tab P l gl dl rt lk):=by
 refine⟨fun _ _ h=>h1.mem _ (Jnn h),fun _ _ h=>(by cases h),?_,?_⟩
 ·rintro f g ⟨p,hp,rfl,hg⟩
  exact⟨(h2.mem p hp).1,(h2.mem p hp).2.1 g hg⟩
 rintro f d ⟨p,hp,rfl,hd⟩
 exact⟨(h3.mem p hp).1,(h3.mem p hp).2 d hd⟩
def X8(ks:List Nat)(gs:List (Nat×Bool))(n:Nat):Nat:=if ks.contains n then 0 else if gs.any (fun p=>p.1 == n) && gs.all (fun p=>p.1 != n || p.2) then 1 else 2
theorem Jo9:∀ {l:List (Nat×PF)} {n:Nat},(l.map Prod.fst).contains n=true→(l.lookup n).isSome
 | [],n,h=>by simp at h
 | (k,pf)::l,n,h=>by
  rw[List.lookup_cons]
  split
  ·rfl
  rename_i hk
  simp only[List.map_cons,List.contains_cons,Bool.or_eq_true]at h
  rcases h with h | h
  ·simp at hk h; exact absurd h hk
  exact Jo9 h
theorem JeQ{P:Program}{l:List (Nat×PF)}{gl:List (Nat×Bool×(GI→Prop))}{dl:List (Nat×(DI→Prop))}{rt:Nat}{lk:List Nat}(n:Nat)(hn:X8 (l.map Prod.fst) (gl.map fun p=>(p.1,p.2.1)) n=0):((tab P l gl dl rt lk).Φ n).isSome:=by
 unfold X8 at hn
 split at hn
 ·rename_i h; exact Jo9 h
 split at hn <;> cases hn
theorem Jhj{P:Program}{l:List (Nat×PF)}{gl:List (Nat×Bool×(GI→Prop))}{dl:List (Nat×(DI→Prop))}{rt:Nat}{lk:List Nat}(h2:Jaf P gl)(n:Nat)(hn:X8 (l.map Prod.fst) (gl.map fun p=>(p.1,p.2.1)) n=1)(g:GI)(hg:(tab P l gl dl rt lk).G n g):
  ∃ val bs ts,g.out=.ret val bs ts:=by
 unfold X8 at hn
 split at hn
 ·cases hn
 split at hn
 ·rename_i h
  simp only[Bool.and_eq_true,List.all_eq_true,List.mem_map]at h
  obtain⟨p,hp,rfl,hS⟩:=hg
  refine(h2.mem p hp).2.2 ?_ g hS
  have:=h.2 (p.1,p.2.1) ⟨p,hp,rfl⟩
  simpa using this
 cases hn
end Go.Proofs.YtfkhlbhjhdpkoaaGreatDoor
namespace Go.Proofs.YtfkhlbhjhdpkoaaGreatDoor
open Go.RowKit
def Jfr(P:Program)(σ:Nat→AV)(h:Hp):ResultVar→Prop×AV
 | .tmp t=>(True,σ t)
 | .cell a ty=>match σ a with
  | .c (.pt n 0)=>match h.H n with
   | some row=>(rowP row=true∧(Kb P h ty row 0).pre,(Kb P h ty row 0).val)
   | none=>(False,KP)
  | _=>(False,KP)
def KK(P:Program)(σ:Nat→AV)(h:Hp):List ResultVar→Prop×List AV
 | []=>(True,[])
 | r::rs=>((Jfr P σ h r).1∧(KK P σ h rs).1,(Jfr P σ h r).2::(KK P σ h rs).2)
def JaY:List AV→Option (List (Bool×List C))
 | []=>some []
 | .c x::l=>(JaY l).map fun m=>(false,[x])::m
 | .ag y::l=>(JaY l).map fun m=>(true,y)::m
 | _::_=>none
def JdV:List AV→Option AV
 | [a]=>some a
 | l=>(JaY l).map .tu
theorem JhO{e:Env}:∀ {l:List AV} {m:List (Bool×List C)} {vs:List Value},JaY l=some m→RAs e l vs→RTs e m vs
 | [],_,[],h,_=>by cases h; trivial
 | .c x::l,_,v::vs,h,⟨k1,k2⟩=>by
  obtain⟨m,h1,rfl⟩:=Option.map_eq_some_iff.1 h
  exact⟨⟨x,rfl,k1⟩,JhO h1 k2⟩
 | .ag y::l,_,v::vs,h,⟨k1,k2⟩=>by
  obtain⟨m,h1,rfl⟩:=Option.map_eq_some_iff.1 h
  exact⟨k1,JhO h1 k2⟩
 | .tu _::_,_,_::_,h,_=>by cases h
 | .df _::_,_,_::_,h,_=>by cases h
 | [],_,_::_,_,k=>k.elim
 | _::_,_,[],_,k=>k.elim
theorem Jyq{Γ:Ctx}{σ:Nat→AV}{h:Hp}{a:Act}{e:Env}(hs:∀ i,i<Γ.nt→RA e (σ i) (a.tmps.getD i undef))(hw:WInv Γ h e){r:ResultVar}(hin:VW Γ.nt r=true)(hp:(Jfr Γ.P σ h r).1):
  ∃ v,(match r with | .tmp t=>pure (a.tmps.getD t undef) | .cell x ty=>do loadVar ty (← asAddr (a.tmps.getD x undef)):Sem Value).run Γ.P e.w=.ok v e.w∧RA e (Jfr Γ.P σ h r).2 v:=by
 cases r with
 | tmp t =>
  simp only[VW,decide_eq_true_eq]at hin
  exact⟨_,by simp,hs t hin⟩
 | cell x ty =>
  simp only[VW,decide_eq_true_eq]at hin
  have hx:=hs x hin
  simp only[Jfr]at hp ⊢
  split at hp
  ·rename_i n hσ
   split at hp
   ·rename_i row hrow
    rw[hσ]at hx
    obtain⟨b,h2,h3⟩:=hx
    obtain⟨b',cs,ty',h4,h5,h6,h7,_⟩:=hw.boxAt h2 row hrow (Z8 hp.1)
    rw[h2]at h4
    simp at h4
    subst h4
    obtain⟨v,h8,h9⟩:=Jf2 (b:=b) (o:=0) hp.2 (h6.plain hp.1) (fun i x hx=>by simp[World.cell?,h5]; simpa using hx)
    refine⟨v,?_,h9⟩
    simp only[Nat.zero_add]at h8
    simp only[h3,asAddr,Sem.run_bind,Sem.run_pure,Result.andThen_ok]
    simpa [Instr.loadAt,Instr.sureAddr] using h8
   exact hp.elim
  exact hp.elim
theorem Jo6{Γ:Ctx}{σ:Nat→AV}{h:Hp}{a:Act}{e:Env}(hs:∀ i,i<Γ.nt→RA e (σ i) (a.tmps.getD i undef))(hw:WInv Γ h e):∀ (rs:List ResultVar),(rs.all (VW Γ.nt))=true→(KK Γ.P σ h rs).1 →
  ∃ vs,(rs.mapM fun r=>(match r with | .tmp t=>pure (a.tmps.getD t undef) | .cell x ty=>do loadVar ty (← asAddr (a.tmps.getD x undef)):Sem Value)).run Γ.P e.w=.ok vs e.w∧RAs e (KK Γ.P σ h rs).2 vs
 | [],_,_=>⟨[],by simp,trivial⟩
 | r::rs,hin,hp=>by
  simp only[List.all_cons,Bool.and_eq_true]at hin
  obtain⟨v,h1,h2⟩:=Jyq hs hw hin.1 hp.1
  obtain⟨vs,h3,h4⟩:=Jo6 hs hw rs hin.2 hp.2
  refine⟨v::vs,?_,h2,h4⟩
  rw[List.mapM_cons,Sem.run_bind,h1,Result.andThen_ok,Sem.run_bind,h3]
  rfl
theorem JiG{Γ:Ctx}{σ:Nat→AV}{h:Hp}{a:Act}{e:Env}{fn:Func}{av:AV}(hs:∀ i,i<Γ.nt→RA e (σ i) (a.tmps.getD i undef))(hw:WInv Γ h e)(hin:(fn.results.toList.all (VW Γ.nt))=true)
  (hr:(KK Γ.P σ h fn.results.toList).1) (hj:JdV (KK Γ.P σ h fn.results.toList).2=some av):∃ v,(results fn a.tmps).run Γ.P e.w=.ok v e.w∧RA e av v:=by
 obtain⟨vs,h1,h2⟩:=Jo6 hs hw fn.results.toList hin hr
 have hrun:(fn.results.mapM fun r=>(match r with | .tmp t=>pure (a.tmps.getD t undef) | .cell x ty=>do loadVar ty (← asAddr (a.tmps.getD x undef)):Sem Value)).run Γ.P e.w=.ok vs.toArray e.w:=by
  rw[Array.mapM_eq_mapM_toList,Sem.run_map,h1]; rfl
 refine⟨if h:vs.toArray.size=1 then vs.toArray[0] else .tuple vs.toArray,?_,?_⟩
 ·unfold results
  rw[Sem.run_bind]
  erw [hrun]
  rfl
 generalize (KK Γ.P σ h fn.results.toList).2=as at h2 hj
 match as,vs,h2,hj with
 | [],[],_,hj=>cases hj; exact⟨[],rfl,trivial⟩
 | [x],[v],⟨k1,_⟩,hj=>cases hj; simpa using k1
 | [x],v::u::vs,⟨_,k2⟩,_=>exact k2.elim
 | x::y::as,[v],⟨_,k2⟩,_=>exact k2.elim
 | x::y::as,v::u::vs,k,hj =>
  have hj:(JaY (x::y::as)).map AV.tu=some av:=hj
  obtain⟨m,h3,rfl⟩:=Option.map_eq_some_iff.1 hj
  rw[dif_neg (by simp)]
  exact⟨_,rfl,JhO h3 k⟩
structure FinWk (nb:Nat) (r:Ren) (h:Hp) (bs:List (List C)) (ts:List TypeId):Prop where
 lb:bs.length=r.ps.length
 lt:ts.length=r.qs.length
 op:once r.ps=true
 oq:once r.qs=true
 bwk:BWk r h 1 bs
 twk:TWk r h (r.ps.length+1) ts
 rt:(r.ps.take nb == List.range' 1 nb)=true
 nb:nb≤bs.length
def QL(t:Tab)(rs:List ResultVar)(nb:Nat)(out:GOut):List (Nat×List C)→Option Value→(Nat→AV)→Hp→Prop
 | [],none,σ,h=>match out with
  | .ret val bs ts=>∃ r av,FinWk nb r h bs ts∧(KK t.P σ h rs).1∧JdV (KK t.P σ h rs).2=some av∧AWk r av val
  | _=>False
 | [],some v,_,h=>match out with
  | .pan v' bs ts=>v=v'∧∃ r,FinWk nb r h bs ts
  | _=>False
 | (f,cs)::l,u,σ,h=>∃ d r,t.D f d∧d.u=u∧GHands h r ⟨d.args,d.bs,d.ts,.ret KP [] []⟩ (cs.map AV.c)∧QL t rs nb out l d.u' σ (h.after r d.bs' d.ts')
theorem JgK{r:Ren}{e:Env}{Γ:Ctx}{bs:List (List C)}{ts:List TypeId}(hw:WInv Γ (hpL bs ts) (renE r e)):JhB (renE r e) (bs.length+ts.length):=by
 intro i hi
 rcases hi with rfl | hi
 ·refine⟨?_,?_⟩
  ·simp[renE]
  simp[renE]
 exact(hw.fresh i (by simp[hpL]; omega)).2.2
theorem FinWk.fin{P:Program}{Γ:Ctx}{nb nt0:Nat}{e0 e:Env}{r:Ren}{h:Hp}{bs:List (List C)}{ts:List TypeId}(k:FinWk nb r h bs ts)(hroot:Γ.root.length=nb)(hw:WInv Γ h e)
  (hΓ:∀ e',WInv Γ (hpL bs ts) e'→WInv (ctxG P nb nt0 e0) (hpL bs ts) e'):GFin P nb nt0 e0 bs ts (renE r e):=by
 have h1:=JgW r k.lb k.lt k.op k.oq k.bwk k.twk k.rt hroot hw
 exact⟨hΓ _ h1,JgK h1,k.nb⟩
theorem JsN{t:Tab}(ht:TabOk t){Γ:Ctx}(hP:t.P=Γ.P){nb nt0:Nat}{out:GOut}{fn:Func}(hroot:Γ.root.length=nb){e0:Env}(hΓ:∀ bs ts e',WInv Γ (hpL bs ts) e'→WInv (ctxG Γ.P nb nt0 e0) (hpL bs ts) e')
  (hin:(fn.results.toList.all (VW Γ.nt))=true):∀ (l:List (Nat×List C)) (u:Option Value) (σ:Nat→AV) (h:Hp) (a:Act) (e:Env) (dl:List Deferred),QL t fn.results.toList nb out l u σ h→RDl e l dl →
   (∀ i,i<Γ.nt→RA e (σ i) (a.tmps.getD i undef))→WInv Γ h e→Leaves Γ.P fn a.tmps (Jxs Γ.P e0 nb nt0 out) dl (Jet u) e.w
 | [],none,σ,h,a,e,dl,hq,hd,hs,hw=>by
  cases dl with
  | cons _ _=>exact hd.elim
  | nil =>
   unfold QL at hq
   split at hq
   ·obtain⟨r,av,k1,k2,k3,k4⟩:=hq
    rw[hP]at k2 k3
    obtain⟨v,h1,h2⟩:=JiG (Γ:=Γ) hs hw hin k2 k3
    exact⟨v,h1,v,renE r e,rfl,rfl,k1.fin hroot hw (hΓ _ _),AWk.ra k4 h2⟩
   exact hq.elim
 | [],some v,σ,h,a,e,dl,hq,hd,hs,hw=>by
  cases dl with
  | cons _ _=>exact hd.elim
  | nil =>
   unfold QL at hq
   split at hq
   ·obtain⟨rfl,r,k1⟩:=hq
    exact⟨renE r e,rfl,rfl,k1.fin hroot hw (hΓ _ _)⟩
   exact hq.elim
 | (f,cs)::l,u,σ,h,a,e,dl,hq,hd,hs,hw=>by
  cases dl with
  | nil=>exact hd.elim
  | cons q dl =>
   obtain⟨⟨cap,vs,k1,k2,k3⟩,hd⟩:=hd
   obtain⟨d,r,hD,hu,hH,hq⟩:=hq
   obtain⟨hcall,hdok⟩:=ht.df _ _ hD
   rw[hP]at hcall hdok
   have hands:Hands Γ h e r d.bs d.ts:=⟨hw,hH.lb,hH.lt,hH.op,hH.oq,hH.bwk,hH.twk,hH.live⟩
   obtain⟨q1,q2⟩:=hands.enter
   have hargs:RAs e (cs.map AV.c) vs:=by
    have:∀ {cs:List C} {vs:List Value},RCs e cs vs→RAs e (cs.map AV.c) vs:=by
     intro cs
     induction cs with
     | nil=>intro vs h; cases vs with | nil=>trivial | cons _ _=>exact h.elim
     | cons c cs ih=>intro vs h; cases vs with
      | nil=>exact h.elim
      | cons v vs=>exact⟨h.1,ih h.2⟩
    exact this k3
   refine⟨by cases u <;> simp[Jet],.func f,cap,f,⟨vs⟩,k1,?_,?_⟩
   ·rw[k1]
    simp only[invoke,k2]
    exact hcall _ _
   have:=hdok (renE r e) vs q1 q2 (AsWk.ras hH.args hargs)
   rw[hu]at this
   refine this.mono ?_
   rintro en u' w' ⟨v,e',rfl,hst,rfl,p1,p2,p3⟩
   show Leaves Γ.P fn a.tmps _ dl (settle u') e'.w
   rw[hst]
   have hle:=hands.le p1
   exact JsN ht hP hroot hΓ hin l d.u' σ _ a (K7 h e e') dl hq (hd.mono hle) (fun i hi=>RA.mono hle (hs i hi)) (hands.leave p1 p2 p3)
def QGen(t:Tab)(fn:Func)(nb:Nat)(out:GOut):Kl:=fun ex σ h =>
 match ex with
 | .ret=>QL t fn.results.toList nb out (dfL (σ DS)) none σ h
 | .normal=>QL t fn.results.toList nb out (dfL (σ DS)) none σ h
 | .panic chain=>∃ v,chain=[{ v:=v,recovered:=false }]∧QL t fn.results.toList nb out (dfL (σ DS)) (some v) σ h
 | _=>False
def Je9(t:Tab)(fn:Func)(nb:Nat)(out:GOut):Kl:=fun ex σ h=>∃ σ' h',Wk nb σ h σ' h'∧QGen t fn nb out ex σ' h'
theorem RAs.get{e:Env}:∀ {l:List AV} {vs:List Value},RAs e l vs→∀ i,(h:i<l.length)→∃ v,vs[i]? = some v∧RA e l[i] v
 | [],[],_,i,h=>by simp at h
 | a::l,v::vs,⟨k1,k2⟩,i,h=>by
  cases i with
  | zero=>exact⟨v,rfl,k1⟩
  | succ i=>simpa using RAs.get k2 i (by simpa using h)
theorem Js4{nt:Nat}{args:List AV}{vs:List Value}{e:Env}(h:RAs e args vs)(hl:args.length≤nt)(hd:nt≤DS):
  Jv nt [] (sig0 args) { tmps:=(⟨vs⟩:Array Value)++Array.replicate (nt-(⟨vs⟩:Array Value).size) undef,defers:=[] } e:=by
 have hlen:=h.length
 refine⟨by simp[hlen]; omega,⟨⟨[],rfl,by rw[JoL (by omega)]; trivial⟩,hd⟩,fun i hi=>?_⟩
 rcases Nat.lt_or_ge i args.length with hlt | hge
 ·obtain⟨v,h1,h2⟩:=h.get i hlt
  have e1:sig0 args i=args[i]:=by simp[sig0,hlt]
  have e2:((⟨vs⟩:Array Value)++Array.replicate (nt-(⟨vs⟩:Array Value).size) undef).getD i undef=v:=by
   have hiv:i<vs.length:=by omega
   simp only[Array.getD_eq_getD_getElem?]
   rw[Array.getElem?_append_left (by simpa using hiv)]
   simp[h1]
  rw[e1,e2]
  exact h2
 have e1:sig0 args i=KP:=by simp[sig0,hge]
 have e2:((⟨vs⟩:Array Value)++Array.replicate (nt-(⟨vs⟩:Array Value).size) undef).getD i undef=undef:=by
  simp only[Array.getD_eq_getD_getElem?]
  rw[Array.getElem?_append_right (by simp; omega),Array.getElem?_replicate]
  split <;> rfl
 rw[e1,e2]
 exact RA.undef e
theorem WInv.reCtx{Γ Γ':Ctx}{h:Hp}{e:Env}(hw:WInv Γ h e)(h1:Γ'.P=Γ.P)(h2:Γ'.w0=Γ.w0)(h3:Γ'.B=Γ.B)(h4:Γ'.S0=Γ.S0)(h5:Γ'.M=Γ.M)(h6:Γ'.root=Γ.root):WInv Γ' h e:=by
 obtain⟨P,w0,B,S0,M,nt,ds,root⟩:=Γ
 obtain⟨P',w0',B',S0',M',nt',ds',root'⟩:=Γ'
 simp only at h1 h2 h3 h4 h5 h6
 subst h1; subst h2; subst h3; subst h4; subst h5; subst h6
 exact⟨hw.g0,hw.os,hw.tape,hw.output,hw.grown,hw.hB,hw.old,hw.sdom,hw.s0,hw.s0B,hw.keep,hw.box,hw.inj,hw.tok,hw.tokinj,hw.fresh,hw.nx0,hw.rt⟩
theorem JxP{t:Tab}{pure:Nat→Nat}(ht:TabOk t)(hm:t.P.follows .mixedOrders=true)(hpure:∀ n,pure n=0→(t.Φ n).isSome)(hnp:∀ n,pure n=1→∀ g,t.G n g→∃ val bs ts,g.out=.ret val bs ts){f:Nat}{fn:Func}{c:Code}(hf:t.P.funcs[f]? = some fn)(hb:fn.body=some c)
  (hcode:(Kd pure t.lk fn.ntmps c && fn.results.toList.all (VW fn.ntmps) && fn.ntmps.ble DS)=true) (g:GI) (hrt:t.rt=g.bs.length) (hl:g.args.length≤fn.ntmps)
  (h:aC t c (sig0 g.args) (hpL g.bs g.ts) (Je9 t fn g.bs.length g.out)):Jm t.P f g:=by
 simp only[Bool.and_eq_true]at hcode
 intro e vs hw hcan hargs
 refine calls_of_wp_defers hf hb ?_
 let Γ:Ctx:={ ctxG t.P g.bs.length g.ts.length e with nt:=fn.ntmps }
 have hwΓ:WInv Γ (hpL g.bs g.ts) e:=hw.reCtx rfl rfl rfl rfl rfl rfl
 have hroot:Γ.root.length=g.bs.length:=by simp[Γ,ctxG]
 refine Jaa (Γ:=Γ) (t:=t) (pure:=pure) ht rfl (by rw[hroot,hrt]) hm hpure hnp c _ _ hcode.1.1 (fun ex σ h a e1 hk hs1 hw1=>?_) _ _ _ e h (Js4 hargs hl (Nat.le_of_ble_eq_true hcode.2)) hwΓ
 obtain⟨σ,h,hwk,hk⟩:=hk
 obtain⟨e',he',hs',hw'⟩:=hwk Γ a e1 hroot hs1 hw1
 rw[← he']
 have fin:∀ u,QL t fn.results.toList g.bs.length g.out (dfL (σ DS)) u σ h→Leaves t.P fn a.tmps (Jxs t.P e g.bs.length g.ts.length g.out) a.defers (Jet u) e'.w:=fun u hq=>by
  obtain⟨r,h1,h2⟩:=hs'.2.1.1
  have h1:a.defers=r:=by simpa [Γ,ctxG] using h1
  rw[h1]
  exact JsN (Γ:=Γ) ht rfl hroot (fun bs ts e' hw=>hw.reCtx rfl rfl rfl rfl rfl rfl) hcode.1.2 _ u σ h a e' r hq h2 hs'.2.2 hw'
 cases ex with
 | normal=>exact fin none hk
 | ret=>exact fin none hk
 | exit id=>exact hk.elim
 | goto l=>exact hk.elim
 | panic ch =>
  obtain⟨v,rfl,hk⟩:=hk
  exact fin (some v) hk
 | outgrown=>exact hk.elim
def QDf(t:Tab)(fn:Func)(d:DI):Kl:=fun ex σ h =>
 match ex with
 | .ret=>(∃ r,FinWk d.bs.length r h d.bs' d.ts')∧(KK t.P σ h fn.results.toList).1∧(JdV (KK t.P σ h fn.results.toList).2).isSome=true∧dfL (σ DS)=[]∧d.u'=d.u
 | .normal=>(∃ r,FinWk d.bs.length r h d.bs' d.ts')∧(KK t.P σ h fn.results.toList).1∧(JdV (KK t.P σ h fn.results.toList).2).isSome=true∧dfL (σ DS)=[]∧d.u'=d.u
 | _=>False
theorem Jx1{t:Tab}{pure:Nat→Nat}(ht:TabOk t)(hm:t.P.follows .mixedOrders=true)(hpure:∀ n,pure n=0→(t.Φ n).isSome)(hnp:∀ n,pure n=1→∀ g,t.G n g→∃ val bs ts,g.out=.ret val bs ts){f:Nat}{fn:Func}{c:Code}(hf:t.P.funcs[f]? = some fn)(hb:fn.body=some c)
  (hcode:(Kd pure t.lk fn.ntmps c && fn.results.toList.all (VW fn.ntmps) && fn.ntmps.ble DS)=true) (d:DI) (hrt:t.rt=d.bs.length) (hl:d.args.length≤fn.ntmps)
  (h:aC t c (sig0 d.args) (hpL d.bs d.ts) (QDf t fn d)):DOk t.P f d:=by
 simp only[Bool.and_eq_true]at hcode
 intro e vs hw hcan hargs
 let Γ:Ctx:={ ctxG t.P d.bs.length d.ts.length e with nt:=fn.ntmps }
 have hwΓ:WInv Γ (hpL d.bs d.ts) e:=hw.reCtx rfl rfl rfl rfl rfl rfl
 have hroot:Γ.root.length=d.bs.length:=by simp[Γ,ctxG]
 have key:=callsD_of_wp (P:=t.P) (u:=Jet d.u) (args:=⟨vs⟩) (w:=e.w) (R:=fun en w'=>∃ v e',en=.returned v∧d.u'=d.u∧e'.w=w'∧GFin t.P d.bs.length d.ts.length e d.bs' d.ts' e') hf hb (by
  refine Jaa (Γ:=Γ) (t:=t) (pure:=pure) ht rfl (by rw[hroot,hrt]) hm hpure hnp c _ _ hcode.1.1 (fun ex σ h a e' hk hs' hw'=>?_) _ _ _ e h (Js4 hargs hl (Nat.le_of_ble_eq_true hcode.2)) hwΓ
  have fin:((∃ r,FinWk d.bs.length r h d.bs' d.ts')∧(KK t.P σ h fn.results.toList).1∧(JdV (KK t.P σ h fn.results.toList).2).isSome=true∧dfL (σ DS)=[]∧d.u'=d.u) →
    a.defers=[]∧∃ v,(results fn a.tmps).run t.P e'.w=.ok v e'.w∧∃ v2 e2,Ending.returned v=.returned v2∧d.u'=d.u∧e2.w=e'.w∧GFin t.P d.bs.length d.ts.length e d.bs' d.ts' e2:=by
   rintro ⟨⟨r,k1⟩,k2,k3,k4,k5⟩
   obtain⟨av,k3⟩:=Option.isSome_iff_exists.1 k3
   obtain⟨v,h1,h2⟩:=JiG (Γ:=Γ) hs'.2.2 hw' hcode.1.2 k2 k3
   exact⟨hs'.2.1.1.nil k4,v,h1,v,renE r e',rfl,k5,rfl,k1.fin hroot hw' (fun e' hw=>hw.reCtx rfl rfl rfl rfl rfl rfl)⟩
  cases ex with
  | normal=>exact fin hk
  | ret=>exact fin hk
  | exit id=>exact hk.elim
  | goto l=>exact hk.elim
  | panic ch=>exact hk.elim
  | outgrown=>exact hk.elim)
 refine key.mono ?_
 rintro en u' w' ⟨rfl,v,e',h1,h2,h3⟩
 refine⟨v,e',h1,?_,h3⟩
 rw[h2]
 cases d.u <;> rfl
def JnB(k ty:Nat)(ps:String):Array Oper:=#[{ dst:=some k,op:=.call { callee:=.builtin .recover,args:=#[],argTypes:=#[] },type:=ty,pos:=ps,after:=#[],guard:=none }]
theorem Jvn{t:Tab}{pure:Nat→Nat}(ht:TabOk t)(hm:t.P.follows .mixedOrders=true)(hpure:∀ n,pure n=0→(t.Φ n).isSome)(hnp:∀ n,pure n=1→∀ g,t.G n g→∃ val bs ts,g.out=.ret val bs ts){f:Nat}{fn:Func}{id k ty:Nat}{ps:String}{c:Code}(hf:t.P.funcs[f]? = some fn)(hb:fn.body=some (.seq (.region id (JnB k ty ps) false) c))
  (hcode:(Kd pure t.lk fn.ntmps c && fn.results.toList.all (VW fn.ntmps) && fn.ntmps.ble DS && k.blt DS)=true) (d:DI) (hu':d.u'=none) (hrt:t.rt=d.bs.length) (hl:d.args.length≤fn.ntmps)
  (h:aC t c (upd (sig0 d.args) k (.c (.d (.v (d.u.getD .nilIface))))) (hpL d.bs d.ts) (QDf t fn { d with u':=d.u })):DOk t.P f d:=by
 simp only[Bool.and_eq_true]at hcode
 intro e vs hw hcan hargs
 let Γ:Ctx:={ ctxG t.P d.bs.length d.ts.length e with nt:=fn.ntmps }
 have hwΓ:WInv Γ (hpL d.bs d.ts) e:=hw.reCtx rfl rfl rfl rfl rfl rfl
 have hroot:Γ.root.length=d.bs.length:=by simp[Γ,ctxG]
 refine callsD_of_wpS hf hb fun c₀ cs hu=>?_
 have key:∀ c1:Frame,(∃ u1,c1={ c₀ with mode:=u1 }∧settle u1=.returning)→c.wpS t.P (bodyPostS t.P fn c₀ cs fun en u' w'=>∃ v e',en=.returned v∧settle u'=Jet d.u'∧e'.w=w'∧GFin t.P d.bs.length d.ts.length e d.bs' d.ts' e')
   (({ tmps:=(⟨vs⟩:Array Value)++Array.replicate (fn.ntmps-(⟨vs⟩:Array Value).size) undef,defers:=[] }:Act).put (some k) (d.u.getD .nilIface)) (c1::cs) e.w:=by
  rintro _ ⟨u1,rfl,hs1⟩
  refine wpS_of_wp ?_
  refine Jaa (Γ:=Γ) (t:=t) (pure:=pure) ht rfl (by rw[hroot,hrt]) hm hpure hnp c _ _ hcode.1.1.1 (fun ex σ h a e' hk hs' hw'=>?_) _ _ _ e h ((Js4 hargs hl (Nat.le_of_ble_eq_true hcode.1.2)).put (some k) (by
   have:=Nat.le_of_ble_eq_true hcode.2
   simp only[ne_eq,Option.some.injEq]
   intro h; subst h; exact absurd this (Nat.not_succ_le_self _)) (.v _)) hwΓ
  have fin:((∃ r,FinWk d.bs.length r h d.bs' d.ts')∧(KK t.P σ h fn.results.toList).1∧(JdV (KK t.P σ h fn.results.toList).2).isSome=true∧dfL (σ DS)=[]∧d.u=d.u) →
    a.defers=[]∧∃ u',({ c₀ with mode:=u1 }:Frame)::cs={ c₀ with mode:=u' }::cs∧∃ v,(results fn a.tmps).run t.P e'.w=.ok v e'.w∧∃ v2 e2,Ending.returned v=.returned v2∧settle u'=Jet d.u'∧e2.w=e'.w∧GFin t.P d.bs.length d.ts.length e d.bs' d.ts' e2:=by
   rintro ⟨⟨r,k1⟩,k2,k3,k4,-⟩
   obtain⟨av,k3⟩:=Option.isSome_iff_exists.1 k3
   obtain⟨v,h1,h2⟩:=JiG (Γ:=Γ) hs'.2.2 hw' hcode.1.1.2 k2 k3
   exact⟨hs'.2.1.1.nil k4,u1,rfl,v,h1,v,renE r e',rfl,by rw[hs1,hu']; rfl,rfl,k1.fin hroot hw' (fun e' hw=>hw.reCtx rfl rfl rfl rfl rfl rfl)⟩
  cases ex with
  | normal=>exact fin hk
  | ret=>exact fin hk
  | exit id=>exact hk.elim
  | goto l=>exact hk.elim
  | panic ch=>exact hk.elim
  | outgrown=>exact hk.elim
 refine wpS_seq (wpS_region ?_)
 have hrun:∀ (a:Act) (o:Oper),o.op=.call { callee:=.builtin .recover,args:=#[],argTypes:=#[] }→(execOp a.eval o).run t.P e.w=.ok .recover e.w:=by
  intro a o ho; simp only[execOp,ho]; rfl
 show wpOpsS t.P (JnB k ty ps) _ [0] _ _ _
 unfold wpOpsS
 have h0:(JnB k ty ps)[0]? = some { dst:=some k,op:=.call { callee:=.builtin .recover,args:=#[],argTypes:=#[] },type:=ty,pos:=ps,after:=#[],guard:=none }:=rfl
 rw[h0]
 dsimp only
 rw[if_pos (by rfl),hrun _ _ rfl]
 cases hdu:d.u with
 | none =>
  rw[hdu]at hu key
  have:recoverD (c₀::cs)=none:=by simp[recoverD,hu,Jet]
  simp only[this]
  exact key c₀ ⟨c₀.mode,rfl,by rw[hu]; rfl⟩
 | some v =>
  rw[hdu]at hu key
  have:recoverD (c₀::cs)=some (v,{ c₀ with mode:=.panicking [{ v:=v,recovered:=true }] }::cs):=by simp[recoverD,hu,Jet]
  simp only[this]
  exact key _ ⟨_,rfl,rfl⟩
end Go.Proofs.YtfkhlbhjhdpkoaaGreatDoor
namespace Go.Proofs.YtfkhlbhjhdpkoaaGreatDoor
open Go.RowKit
section
variable {t:Tab} {ops:Array Oper} {pure:Nat→Nat} {fl:List Nat}
abbrev LK:=Hp→Prop
abbrev XK:=LK→List Hp→(Nat→AV)→Hp→Prop
def isSt:Op→Bool
 | .store _ _ _=>true
 | _=>false
theorem Jjo{t:Tab}{σ:Nat→AV}{op:Op}{x:Nat×List AV}(h:JM t σ op=some x):isSt op=false:=by
 cases op <;> first | rfl | (simp[JM]at h)
def clsF(pure:Nat→Nat)(fl:List Nat)(op:Op)(dst:Option Tmp):Nat :=
 if cls pure op=1∧(match dst with | some d=>fl.contains d | none=>false)=false then 8 else if cls pure op=2∧isSt op=true∧fl.contains 888888=true then 5 else cls pure op
def JhC(pure:Nat→Nat)(op:Op)(c:Nat):Prop:=cls pure op=c∨(c=8∧cls pure op=1)∨(c=5∧cls pure op=2)
theorem JlB(pure:Nat→Nat)(fl:List Nat)(op:Op)(dst:Option Tmp):JhC pure op (clsF pure fl op dst):=by
 unfold JhC clsF
 by_cases h:cls pure op=1∧(match dst with | some d=>fl.contains d | none=>false)=false
 ·rw[if_pos h]; exact .inr (.inl ⟨rfl,h.1⟩)
 rw[if_neg h]
 by_cases h5:cls pure op=2∧isSt op=true∧fl.contains 888888=true
 ·rw[if_pos h5]; exact .inr (.inr ⟨rfl,h5.1⟩)
 rw[if_neg h5]; exact .inl rfl
theorem JhC.ne{pure:Nat→Nat}{op:Op}{c:Nat}(h:JhC pure op c)(h8:c≠8)(h5:c≠5:=by first | decide | omega):cls pure op=c:=h.resolve_right fun x=>x.elim (fun x=>h8 x.1) (fun x=>h5 x.1)
theorem JhC.read{pure:Nat→Nat}{op:Op}{c:Nat}(h:JhC pure op c)(h8:c=1∨c=8):cls pure op=1:=by
 rcases h with h | h
 ·rcases h8 with h8 | h8
  ·rw[h,h8]
  exfalso
  rw[h8]at h
  have:∀ op,cls pure op≠8:=fun op h=>by
   cases op <;> simp only[cls]at h <;> first | (exact absurd h (by decide)) | skip
   case call c =>
    obtain⟨callee,args,ts⟩:=c
    cases callee with
    | invoke _ _=>simp at h
    | value f=>cases f <;> simp at h; (repeat' split at h) <;> simp at h
    | builtin b=>cases b <;> simp at h; (have:=JgR ts.toList; omega)
  exact this op h
 rcases h with h | h
 ·exact h.2
 exfalso; omega
def K3(t:Tab)(op:Op)(σ:Nat→AV)(h h':Hp):Prop:=(aop t.P t.Φ t.Ψ op σ h').pre∧(aop t.P t.Φ t.Ψ op σ h').val=(aop t.P t.Φ t.Ψ op σ h).val
def JaM(t:Tab)(c:Nat)(op:Op)(dst:Option Tmp)(K:XK)(Kp:Value→Hp→Prop)(L:LK)(M:List Hp)(σ:Nat→AV)(h:Hp):Prop :=
 if c=1 then(∀ h0∈M,K3 t op σ h h0)∧aRun t op dst (K (fun h'=>L h'∧K3 t op σ h h') M) Kp σ h
 else if c=2∨c=4∨c=6 then aRun t op dst (fun σ' h'=>L h'∧K L (h::M) σ' h') Kp σ h
 else aRun t op dst (K L M) Kp σ h
def aOpX(t:Tab)(pure:Nat→Nat)(fl:List Nat)(ops:Array Oper)(o:Oper)(K:XK)(Kp:Value→Hp→Prop)(L:LK)(M:List Hp)(σ:Nat→AV)(h:Hp):Prop :=
 JN ops σ o.guard (JaM t (clsF pure fl o.op o.dst) o.op o.dst K Kp L M σ h) (K L M (putA σ o.dst KP) h)
def Jfc(K:XK):Prop:=∀ (L L':LK) (M M':List Hp) (σ:Nat→AV) (h:Hp),(∀ h,L h→L' h)→(∀ x∈M',x∈M)→K L M σ h→K L' M' σ h
theorem Ji2{c:Nat}{op:Op}{dst:Option Tmp}{K K':XK}{Kp Kp':Value→Hp→Prop}(hk:∀ L M σ h,K L M σ h→K' L M σ h)(hp:∀ v h,Kp v h→Kp' v h){L:LK}{M:List Hp}{σ:Nat→AV}{h:Hp}(hh:JaM t c op dst K Kp L M σ h):JaM t c op dst K' Kp' L M σ h:=by
 unfold JaM at *
 split at hh
 ·rename_i h0; rw[if_pos h0]; exact⟨hh.1,V5 (fun _ _=>hk _ _ _ _) hp hh.2⟩
 rename_i h0; rw[if_neg h0]
 split at hh
 ·rename_i h1; rw[if_pos h1]; exact V5 (fun _ _ x=>⟨x.1,hk _ _ _ _ x.2⟩) hp hh
 rename_i h1; rw[if_neg h1]; exact V5 (fun _ _=>hk _ _ _ _) hp hh
theorem JkO{o:Oper}{K K':XK}{Kp Kp':Value→Hp→Prop}(hk:∀ L M σ h,K L M σ h→K' L M σ h)(hp:∀ v h,Kp v h→Kp' v h){L:LK}{M:List Hp}{σ:Nat→AV}{h:Hp}(hh:aOpX t pure fl ops o K Kp L M σ h):aOpX t pure fl ops o K' Kp' L M σ h :=
 Jy (Ji2 hk hp) (hk _ _ _ _) hh
theorem JwO{o:Oper}{K:XK}{Kp:Value→Hp→Prop}(hk:Jfc K){L L':LK}{M M':List Hp}{σ:Nat→AV}{h:Hp}(hL:∀ h,L h→L' h)(hM:∀ x∈M',x∈M)(hh:aOpX t pure fl ops o K Kp L M σ h):aOpX t pure fl ops o K Kp L' M' σ h:=by
 refine Jy (fun x=>?_) (hk _ _ _ _ _ _ hL hM) hh
 unfold JaM at *
 split at x
 ·rename_i h0; rw[if_pos h0]
  exact⟨fun h0 hm=>x.1 h0 (hM _ hm),V5 (fun _ _=>hk _ _ _ _ _ _ (fun h' q=>⟨hL _ q.1,q.2⟩) hM) (fun _ _ x=>x) x.2⟩
 rename_i h0; rw[if_neg h0]
 split at x
 ·rename_i h1; rw[if_pos h1]
  exact V5 (fun _ _ q=>⟨hL _ q.1,hk _ _ _ _ _ _ hL (fun y hy=>by
   rcases List.mem_cons.1 hy with rfl | hy
   ·simp
   exact List.mem_cons_of_mem _ (hM _ hy)) q.2⟩) (fun _ _ x=>x) x
 rename_i h1; rw[if_neg h1]
 exact V5 (fun _ _=>hk _ _ _ _ _ _ hL hM) (fun _ _ x=>x) x
theorem Jxc{c:Nat}{op:Op}{dst:Option Tmp}{K:XK}{Kp:Value→Hp→Prop}{L:LK}{M:List Hp}{σ:Nat→AV}{h:Hp}(hh:JaM t c op dst K Kp L M σ h):aRun t op dst (fun σ' h'=>∃ L M,K L M σ' h') Kp σ h:=by
 unfold JaM at hh
 split at hh
 ·exact V5 (fun _ _ x=>⟨_,_,x⟩) (fun _ _ x=>x) hh.2
 split at hh
 ·exact V5 (fun _ _ x=>⟨_,_,x.2⟩) (fun _ _ x=>x) hh
 exact V5 (fun _ _ x=>⟨_,_,x⟩) (fun _ _ x=>x) hh
theorem JiJ{op:Op}{dst:Option Tmp}{K:(Nat→AV)→Hp→Prop}{Kp:Value→Hp→Prop}{σ:Nat→AV}{h:Hp}(hf:h.Fr)(x:aRun t op dst K Kp σ h):aRun t op dst (fun σ' h'=>h'.Fr∧K σ' h') Kp σ h:=by
 unfold aRun at *
 split at x
 ·split at x
  ·rename_i hd
   rw[if_pos hd]
   unfold aDP at *
   split at x
   ·split at x
    ·exact⟨hf,x⟩
    exact x.elim
   ·split at x
    ·exact x
    exact x.elim
   exact x.elim
  rename_i hd
  rw[if_neg hd]
  exact⟨x.1,Jpm hf,x.2⟩
 obtain⟨g,r,k1,k2,k3⟩:=x
 refine⟨g,r,k1,k2,?_⟩
 split at k3
 ·rename_i ho; exact⟨JlY hf k2 _ _,k3⟩
 exact k3
theorem Jm6{o:Oper}{K:XK}{Kp:Value→Hp→Prop}{L:LK}{M:List Hp}{σ:Nat→AV}{h:Hp}(hf:h.Fr)(hh:aOpX t pure fl ops o K Kp L M σ h):aOpX t pure fl ops o (fun L M σ' h'=>h'.Fr∧K L M σ' h') Kp L M σ h:=by
 refine Jy (fun x=>?_) (fun x=>⟨hf,x⟩) hh
 unfold JaM at *
 split at x
 ·rename_i h0; rw[if_pos h0]; exact⟨x.1,JiJ hf x.2⟩
 rename_i h0; rw[if_neg h0]
 split at x
 ·rename_i h1; rw[if_pos h1]; exact V5 (fun _ _ q=>⟨q.2.1,q.1,q.2.2⟩) (fun _ _ q=>q) (JiJ hf x)
 rename_i h1; rw[if_neg h1]; exact JiJ hf x
theorem JyF{o:Oper}{K:XK}{Kp:Value→Hp→Prop}{L:LK}{M:List Hp}{σ:Nat→AV}{h:Hp}(hh:aOpX t pure fl ops o K Kp L M σ h):aOp t ops o (fun σ' h'=>∃ L M,K L M σ' h') Kp σ h :=
 Jy Jxc (fun x=>⟨_,_,x⟩) hh
def JdZ(i j:Nat):Bool:=i != 7 && j != 7 && (i == 0 || (j == 0 && i != 6) || (i == 1 && (j == 1 || j == 2 || j == 3 || j == 4 || j == 6 || j == 8)) || (i == 8 && (j == 1 || j == 3 || j == 4 || j == 8)) || ((i == 2 || i == 3 || i == 4) && j == 1) || (i == 3 && j == 8))
theorem JCz{σ:Nat→AV}{g g':Option (Nat×Bool)}{Pi Pj RR RS SR SS RR' RS' SR' SS':Prop}(hh:JN ops σ g (Pi∧JN ops σ g' RR RS) (JN ops σ g' SR SS))
  (h1:Pi→RR→Pj∧RR') (h2:SR→Pj∧SR') (h3:Pi→RS→RS') (h4:SS→SS'):JN ops σ g' (Pj∧JN ops σ g RR' SR') (JN ops σ g RS' SS'):=by
 have k:=Jdb (Jy (r':=JN ops σ g' (Pj∧RR') RS') (s':=JN ops σ g' (Pj∧SR') SS') (fun x=>Jy (h1 x.1) (h3 x.1) x.2) (fun x=>Jy h2 h4 x) hh)
 exact Jy (fun x=>JiP x) (fun x=>x) k
def preX(t:Tab)(c:Nat)(op:Op)(L:LK)(M:List Hp)(σ:Nat→AV)(h:Hp):Prop :=
 (c=1→∀ h0∈M,K3 t op σ h h0)∧(aop t.P t.Φ t.Ψ op σ h).pre∧((c=2∨c=4∨c=6)→L (aop t.P t.Φ t.Ψ op σ h).h)
def lkX(t:Tab)(c:Nat)(op:Op)(L:LK)(σ:Nat→AV)(h:Hp):LK:=fun h'=>L h'∧(c=1→K3 t op σ h h')
def mX(c:Nat)(M:List Hp)(h:Hp):List Hp:=if c=2∨c=4∨c=6 then h::M else M
theorem JyX{c:Nat}{op:Op}{dst:Option Tmp}{K:XK}(hk:Jfc K){Kp:Value→Hp→Prop}{L:LK}{M:List Hp}{σ:Nat→AV}{h:Hp}(hg:JM t σ op=none)(hd:¬ isDP op=true):
  JaM t c op dst K Kp L M σ h↔preX t c op L M σ h∧K (lkX t c op L σ h) (mX c M h) (putA σ dst (aop t.P t.Φ t.Ψ op σ h).val) (aop t.P t.Φ t.Ψ op σ h).h:=by
 unfold JaM aRun preX mX
 simp only[hg,if_neg hd]
 by_cases h1:c=1
 ·subst h1
  simp only[if_true,true_implies]
  constructor
  ·rintro ⟨a,b,d⟩
   exact⟨⟨a,b,fun hx=>by rcases hx with hx | hx | hx <;> cases hx⟩,hk _ _ _ _ _ _ (fun h' q=>⟨q.1,fun _=>q.2⟩) (fun x hx=>hx) d⟩
  rintro ⟨⟨a,b,_⟩,d⟩
  exact⟨a,b,hk _ _ _ _ _ _ (fun h' q=>⟨q.1,q.2 rfl⟩) (fun x hx=>hx) d⟩
 rw[if_neg h1]
 by_cases h2:c=2∨c=4∨c=6
 ·simp only[if_pos h2]
  constructor
  ·rintro ⟨b,l,d⟩
   exact⟨⟨fun hx=>absurd hx h1,b,fun _=>l⟩,hk _ _ _ _ _ _ (fun h' q=>⟨q,fun hx=>absurd hx h1⟩) (fun x hx=>hx) d⟩
  rintro ⟨⟨_,b,l⟩,d⟩
  exact⟨b,l h2,hk _ _ _ _ _ _ (fun h' q=>q.1) (fun x hx=>hx) d⟩
 simp only[if_neg h2]
 constructor
 ·rintro ⟨b,d⟩
  exact⟨⟨fun hx=>absurd hx h1,b,fun hx=>absurd hx h2⟩,hk _ _ _ _ _ _ (fun h' q=>⟨q,fun hx=>absurd hx h1⟩) (fun x hx=>hx) d⟩
 rintro ⟨⟨_,b,_⟩,d⟩
 exact⟨b,hk _ _ _ _ _ _ (fun h' q=>q.1) (fun x hx=>hx) d⟩
theorem Jfc.opX{o:Oper}{K:XK}{Kp:Value→Hp→Prop}(hk:Jfc K):Jfc (fun L M σ h=>aOpX t pure fl ops o K Kp L M σ h):=fun _ _ _ _ _ _ hL hM hh=>JwO hk hL hM hh
theorem JCU(hpure:∀ n,pure n=0→(t.Φ n).isSome){i j:Op}{ci cj:Nat}(hi:JhC pure i ci)(hj:JhC pure j cj)(hc:JdZ ci cj=true){L:LK}{M:List Hp}{σ:Nat→AV}{h:Hp}(hfr:h.Fr)
  (h1:preX t ci i L M σ h) (h2:preX t cj j (lkX t ci i L σ h) (mX ci M h) σ (aop t.P t.Φ t.Ψ i σ h).h) :
  preX t cj j L M σ h∧(preX t ci i (lkX t cj j L σ h) (mX cj M h) σ (aop t.P t.Φ t.Ψ j σ h).h) ∧
  (aop t.P t.Φ t.Ψ j σ h).val=(aop t.P t.Φ t.Ψ j σ (aop t.P t.Φ t.Ψ i σ h).h).val∧(aop t.P t.Φ t.Ψ i σ (aop t.P t.Φ t.Ψ j σ h).h).val=(aop t.P t.Φ t.Ψ i σ h).val ∧
  (aop t.P t.Φ t.Ψ i σ (aop t.P t.Φ t.Ψ j σ h).h).h=(aop t.P t.Φ t.Ψ j σ (aop t.P t.Φ t.Ψ i σ h).h).h ∧
  (∀ x∈mX ci (mX cj M h) (aop t.P t.Φ t.Ψ j σ h).h,x∈mX cj (mX ci M h) (aop t.P t.Φ t.Ψ i σ h).h) ∧
  (∀ h',lkX t cj j (lkX t ci i L σ h) σ (aop t.P t.Φ t.Ψ i σ h).h h'→lkX t ci i (lkX t cj j L σ h) σ (aop t.P t.Φ t.Ψ j σ h).h h'):=by
 simp only[JdZ,Bool.and_eq_true,Bool.or_eq_true,beq_iff_eq,bne_iff_ne]at hc
 obtain⟨_,hc⟩:=hc
 unfold preX at *
 rcases hc with((((hc | hc) | ⟨hci,hcj⟩) | ⟨hci,hcj⟩) | ⟨hci,hcj⟩) | ⟨hci,hcj⟩
 ·-- it only reckons
  subst hc
  have hc:=hi.ne (by decide)
  have a:=fun h h'=>V2 (P:=t.P) (Φ:=t.Φ) (Ψ:=t.Ψ) hpure hc σ h h'
  have ah:=fun h=>(a h h).2.2
  simp only[mX,lkX]at *
  simp only[ah]at *
  refine⟨⟨?_,h2.2.1,fun q=>(h2.2.2 q).1⟩,⟨by simp,by rw[(a _ h).1]; exact h1.2.1,by simp⟩,trivial,(a _ h).2.1,trivial,by simp,fun h' q=>⟨⟨q.1.1,q.2⟩,by simp⟩⟩
  intro q; have:=h2.1 q; simpa using this
 ·obtain⟨hc,hi6⟩:=hc
  subst hc
  have hc:=hj.ne (by decide)
  have a:=fun h h'=>V2 (P:=t.P) (Φ:=t.Φ) (Ψ:=t.Ψ) hpure hc σ h h'
  have ah:=fun h=>(a h h).2.2
  simp only[mX,lkX]at *
  simp only[ah]at *
  refine⟨⟨by simp,by rw[(a h (aop t.P t.Φ t.Ψ i σ h).h).1]; exact h2.2.1,by simp⟩,⟨?_,h1.2.1,fun q=>⟨h1.2.2 q,by simp⟩⟩,(a _ _).2.1,trivial,trivial,by simp,fun h' q=>⟨⟨q.1.1,by simp⟩,q.1.2⟩⟩
  intro q; have:=h1.1 q; simpa using this
 ·-- it reads,with a lock
  subst hci
  have hci:=hi.ne (by decide)
  have ah:=fun h=>Vn (P:=t.P) (Φ:=t.Φ) (Ψ:=t.Ψ) hci σ h
  simp only[mX,lkX]at h1 h2 ⊢
  simp only[ah]at h1 h2 ⊢
  simp only[true_implies,show ¬ ((1:Nat)=2∨1=4∨1=6) by decide,if_false]at h1 h2 ⊢
  have hl:(aop t.P t.Φ t.Ψ i σ (aop t.P t.Φ t.Ψ j σ h).h).pre∧(aop t.P t.Φ t.Ψ i σ (aop t.P t.Φ t.Ψ j σ h).h).val=(aop t.P t.Φ t.Ψ i σ h).val:=by
   have hvy:(cj=2∨cj=4∨cj=6)→K3 t i σ h (aop t.P t.Φ t.Ψ j σ h).h:=fun q=>(h2.2.2 q).2
   rcases hcj with((((hcj | hcj) | hcj) | hcj) | hcj) | hcj
   ·rw[Vn (P:=t.P) (Φ:=t.Φ) (Ψ:=t.Ψ) (hj.read (.inl hcj)) σ h]; exact⟨h1.2.1,rfl⟩
   ·exact hvy (.inl hcj)
   ·have b1:=JfX (P:=t.P) (Φ:=t.Φ) (Ψ:=t.Ψ) ((hj.ne (by omega)).trans hcj) σ h
    rw[JcY (P:=t.P) (Φ:=t.Φ) (Ψ:=t.Ψ) hci σ b1]; exact⟨h1.2.1,rfl⟩
   ·exact hvy (.inr (.inl hcj))
   ·exact hvy (.inr (.inr hcj))
   rw[Vn (P:=t.P) (Φ:=t.Φ) (Ψ:=t.Ψ) (hj.read (.inr hcj)) σ h]; exact⟨h1.2.1,rfl⟩
  refine⟨⟨h2.1,h2.2.1,fun q=>(h2.2.2 q).1⟩,⟨?_,hl.1,by simp⟩,trivial,hl.2,trivial,by simp,fun h' q=>⟨⟨q.1.1,q.2⟩,?_⟩⟩
  ·intro h0 hm
   unfold K3
   rw[hl.2]
   split at hm
   ·rcases List.mem_cons.1 hm with rfl | hm
    ·exact⟨h1.2.1,rfl⟩
    exact h1.1 h0 hm
   exact h1.1 h0 hm
  have:=q.1.2
  unfold K3 at *
  rw[hl.2]; exact this
 ·-- it reads,without one
  subst hci
  have hci:=hi.read (.inr rfl)
  have ah:=fun h=>Vn (P:=t.P) (Φ:=t.Φ) (Ψ:=t.Ψ) hci σ h
  simp only[mX,lkX]at h1 h2 ⊢
  simp only[ah]at h1 h2 ⊢
  simp only[show ¬ ((8:Nat)=1) by decide,show ¬ ((8:Nat)=2∨8=4∨8=6) by decide,if_false,false_implies,and_true,true_and]at h1 h2 ⊢
  have hl:(aop t.P t.Φ t.Ψ i σ (aop t.P t.Φ t.Ψ j σ h).h).pre∧(aop t.P t.Φ t.Ψ i σ (aop t.P t.Φ t.Ψ j σ h).h).val=(aop t.P t.Φ t.Ψ i σ h).val:=by
   rcases hcj with((hcj | hcj) | hcj) | hcj
   ·rw[Vn (P:=t.P) (Φ:=t.Φ) (Ψ:=t.Ψ) (hj.read (.inl hcj)) σ h]; exact⟨h1,rfl⟩
   ·have b1:=JfX (P:=t.P) (Φ:=t.Φ) (Ψ:=t.Ψ) ((hj.ne (by omega)).trans hcj) σ h
    rw[JcY (P:=t.P) (Φ:=t.Φ) (Ψ:=t.Ψ) hci σ b1]; exact⟨h1,rfl⟩
   ·refine JsK hci σ h _ (fun n row hn=>?_) h1
    obtain⟨row',hr⟩:=JuM (P:=t.P) (Φ:=t.Φ) (Ψ:=t.Ψ) ((hj.ne (by omega)).trans hcj) σ h
    rw[hr]
    have hne:n≠h.nx:=fun he=>by have:=hfr n (by omega); rw[this]at hn; cases hn
    simp[Hp.box,upd,hne,hn]
   rw[Vn (P:=t.P) (Φ:=t.Φ) (Ψ:=t.Ψ) (hj.read (.inr hcj)) σ h]; exact⟨h1,rfl⟩
  exact⟨h2,hl.1,hl.2,fun x hx=>hx,fun h' q=>q⟩
 ·-- it is read,with a lock
  subst hcj
  have hcj:=hj.ne (by decide)
  have ah:=fun h=>Vn (P:=t.P) (Φ:=t.Φ) (Ψ:=t.Ψ) hcj σ h
  simp only[mX,lkX]at h1 h2 ⊢
  simp only[ah]at h1 h2 ⊢
  simp only[true_implies,show ¬ ((1:Nat)=2∨1=4∨1=6) by decide,if_false]at h1 h2 ⊢
  have hi1:ci≠1:=by omega
  have hl:(aop t.P t.Φ t.Ψ j σ h).pre∧(aop t.P t.Φ t.Ψ j σ h).val=(aop t.P t.Φ t.Ψ j σ (aop t.P t.Φ t.Ψ i σ h).h).val:=by
   have hvy:(ci=2∨ci=4∨ci=6)→K3 t j σ (aop t.P t.Φ t.Ψ i σ h).h h:=fun q=>h2.1 h (by rw[if_pos q]; simp)
   rcases hci with(hci | hci) | hci
   ·exact hvy (.inl hci)
   ·have b1:=JfX (P:=t.P) (Φ:=t.Φ) (Ψ:=t.Ψ) ((hi.ne (by omega)).trans hci) σ h
    have:=h2.2.1
    rw[JcY (P:=t.P) (Φ:=t.Φ) (Ψ:=t.Ψ) hcj σ b1]at this ⊢; exact⟨this,rfl⟩
   exact hvy (.inr (.inl hci))
  refine⟨⟨?_,hl.1,by simp⟩,⟨fun q=>absurd q hi1,h1.2.1,fun q=>⟨h1.2.2 q,?_⟩⟩,hl.2,trivial,trivial,by simp,fun h' q=>⟨⟨q.1.1,?_⟩,fun q=>absurd q hi1⟩⟩
  ·intro h0 hm
   unfold K3
   rw[hl.2]
   exact h2.1 h0 (by split <;> simp[hm])
  ·unfold K3
   rw[hl.2]; exact⟨h2.2.1,rfl⟩
  have:=q.2
  unfold K3 at *
  rw[hl.2]; exact this
 -- it is read behind an append to a token
 subst hci hcj
 have hcj:=hj.read (.inr rfl)
 have hci:=hi.ne (by decide)
 have ah:=fun h=>Vn (P:=t.P) (Φ:=t.Φ) (Ψ:=t.Ψ) hcj σ h
 simp only[mX,lkX]at h1 h2 ⊢
 simp only[ah]at h1 h2 ⊢
 simp only[show ¬ ((8:Nat)=1) by decide,show ¬ ((3:Nat)=1) by decide,show ¬ ((8:Nat)=2∨8=4∨8=6) by decide,show ¬ ((3:Nat)=2∨3=4∨3=6) by decide,if_false,false_implies,and_true,true_and]at h1 h2 ⊢
 have b1:=JfX (P:=t.P) (Φ:=t.Φ) (Ψ:=t.Ψ) hci σ h
 rw[JcY (P:=t.P) (Φ:=t.Φ) (Ψ:=t.Ψ) hcj σ b1]at h2 ⊢
 exact⟨h2,h1,rfl,fun x hx=>hx,fun h' q=>q⟩
theorem Jod{o:Oper}{σ:Nat→AV}{dst:Option Tmp}{v:AV}{h h':Hp}(hd:∀ d,dst=some d→d∉o.looksAt ops):K3 t o.op (putA σ dst v) h h'=K3 t o.op σ h h':=by
 unfold K3; rw[Jci hd,Jci hd]
theorem Jjl{o:Oper}{c:Nat}{L:LK}{M:List Hp}{σ:Nat→AV}{dst:Option Tmp}{v:AV}{h:Hp}(hd:∀ d,dst=some d→d∉o.looksAt ops):preX t c o.op L M (putA σ dst v) h=preX t c o.op L M σ h:=by
 unfold preX; simp only[Jod hd,Jci hd]
theorem Jlv{o:Oper}{c:Nat}{L:LK}{σ:Nat→AV}{dst:Option Tmp}{v:AV}{h:Hp}(hd:∀ d,dst=some d→d∉o.looksAt ops):lkX t c o.op L (putA σ dst v) h=lkX t c o.op L σ h:=by
 unfold lkX; simp only[Jod hd]
theorem Jdz{o:Oper}{K:XK}(hk:Jfc K){Kp:Value→Hp→Prop}{L:LK}{M:List Hp}{σ:Nat→AV}{h:Hp}(hg:JM t σ o.op=none)(hd:¬ isDP o.op=true):
  aOpX t pure fl ops o K Kp L M σ h=JN ops σ o.guard (preX t (clsF pure fl o.op o.dst) o.op L M σ h∧K (lkX t (clsF pure fl o.op o.dst) o.op L σ h) (mX (clsF pure fl o.op o.dst) M h) (putA σ o.dst (aop t.P t.Φ t.Ψ o.op σ h).val) (aop t.P t.Φ t.Ψ o.op σ h).h) (K L M (putA σ o.dst KP) h):=by
 unfold aOpX
 rw[propext (JyX hk hg hd)]
theorem Jpk{i j:Nat}(h:JdZ i j=true):i≠7∧j≠7:=by
 simp only[JdZ,Bool.and_eq_true,bne_iff_ne]at h
 exact h.1
theorem Jy0{op:Op}{dst:Option Tmp}(h:cls pure op=7):clsF pure fl op dst=7:=by
 unfold clsF
 rw[if_neg (by rw[h]; simp),if_neg (by rw[h]; simp),h]
theorem JnK{op:Op}{dst:Option Tmp}(h:cls pure op=2∨cls pure op=6)(hs:isSt op=false):clsF pure fl op dst=cls pure op:=by
 unfold clsF
 rw[if_neg (by omega),if_neg (by rw[hs]; simp)]
theorem JxW(hpure:∀ n,pure n=0→(t.Φ n).isSome){oi oj:Oper}(hap:oi.apart ops oj=true)(hc:JdZ (clsF pure fl oi.op oi.dst) (clsF pure fl oj.op oj.dst)=true){K:XK}(hk:Jfc K){Kp:Value→Hp→Prop}{L:LK}{M:List Hp}{σ:Nat→AV}{h:Hp}(hfr:h.Fr)
  (hgi:JM t σ oi.op=none) (hgj:JM t σ oj.op=none) (hh:aOpX t pure fl ops oi (fun L M σ h=>aOpX t pure fl ops oj K Kp L M σ h) Kp L M σ h):aOpX t pure fl ops oj (fun L M σ h=>aOpX t pure fl ops oi K Kp L M σ h) Kp L M σ h:=by
 obtain⟨h1,h2,h3⟩:=Oper.apart_spec hap
 have hd1:=JdK (pure:=pure) (fun h=>(Jpk hc).1 ((Jy0 h)))
 have hd2:=JdK (pure:=pure) (fun h=>(Jpk hc).2 ((Jy0 h)))
 have gj:∀ v,JM t (putA σ oi.dst v) oj.op=none:=fun v=>by rw[XM h1]; exact hgj
 have gi:∀ v,JM t (putA σ oj.dst v) oi.op=none:=fun v=>by rw[XM h3]; exact hgi
 rw[Jdz hk.opX hgi hd1]at hh
 rw[Jdz hk.opX hgj hd2]
 simp only[Jdz hk (gj _) hd2,VX (o:=oj) h1,Jjl (o:=oj) h1,Jlv (o:=oj) h1,Jci (o:=oj) h1]at hh
 simp only[Jdz hk (gi _) hd1,VX (o:=oi) h3,Jjl (o:=oi) h3,Jlv (o:=oi) h3,Jci (o:=oi) h3]
 refine JCz hh (fun a b=>?_) (fun b=>⟨b.1,?_⟩) (fun a b=>⟨a,?_⟩) (fun b=>?_)
 ·obtain⟨s1,s2,s3,s4,s5,s6,s7⟩:=JCU hpure (JlB pure fl oi.op oi.dst) (JlB pure fl oj.op oj.dst) hc hfr a b.1
  refine⟨s1,s2,?_⟩
  rw[s5,s4,s3,← J1 h2]
  exact hk _ _ _ _ _ _ s7 s6 b.2
 ·rw[← J1 h2]; exact b.2
 ·rw[← J1 h2]; exact b
 rw[← J1 h2]; exact b
theorem Jjn(hpure:∀ n,pure n=0→(t.Φ n).isSome){o:Oper}{K:XK}{Kp:Value→Hp→Prop}{L:LK}{M:List Hp}{σ:Nat→AV}{h:Hp}{x:Nat×List AV}(hx:JM t σ o.op=some x):
  aOpX t pure fl ops o K Kp L M σ h=JN ops σ o.guard (aGen t x h (fun v h'=>L h'∧K L (h::M) (putA σ o.dst v) h') Kp) (K L M (putA σ o.dst KP) h):=by
 have hc:=JbV hpure hx
 have he:=JnK (fl:=fl) (dst:=o.dst) hc (Jjo hx)
 unfold aOpX JaM
 simp only[he]
 rw[if_neg (by omega),if_pos (by omega)]
 unfold aRun
 simp only[hx]
theorem JAo(hpure:∀ n,pure n=0→(t.Φ n).isSome){i:Op}(hc:cls pure i=0∨cls pure i=1){L:LK}{M:List Hp}{σ:Nat→AV}{h h':Hp}(h1:preX t (cls pure i) i L M σ h)(h2:lkX t (cls pure i) i L σ h h'):
  preX t (cls pure i) i L (h::M) σ h'∧(aop t.P t.Φ t.Ψ i σ h').val=(aop t.P t.Φ t.Ψ i σ h).val∧(aop t.P t.Φ t.Ψ i σ h').h=h'∧(∀ h2,lkX t (cls pure i) i L σ h h2→lkX t (cls pure i) i L σ h' h2):=by
 rcases hc with hc | hc
 ·have a:=fun h h'=>V2 (P:=t.P) (Φ:=t.Φ) (Ψ:=t.Ψ) hpure hc σ h h'
  unfold preX lkX at *
  simp only[hc]at *
  exact⟨⟨by simp,by rw[(a h' h).1]; exact h1.2.1,by simp⟩,(a _ _).2.1,(a h' h).2.2,fun _ q=>⟨q.1,by simp⟩⟩
 have ah:=fun h=>Vn (P:=t.P) (Φ:=t.Φ) (Ψ:=t.Ψ) hc σ h
 unfold preX lkX at *
 simp only[hc,true_implies]at *
 refine⟨⟨fun h0 hm=>?_,h2.2.1,by simp⟩,h2.2.2,ah _,fun h3 q=>⟨q.1,?_⟩⟩
 ·unfold K3
  rw[h2.2.2]
  rcases List.mem_cons.1 hm with rfl | hm
  ·exact⟨h1.2.1,rfl⟩
  exact h1.1 h0 hm
 have:=q.2
 unfold K3 at *
 rw[h2.2.2]; exact this
theorem Jyz(hpure:∀ n,pure n=0→(t.Φ n).isSome){oi oj:Oper}(hap:oi.apart ops oj=true)(hc:clsF pure fl oi.op oi.dst=0∨clsF pure fl oi.op oi.dst=1){K:XK}(hk:Jfc K){Kp:Value→Hp→Prop}{L:LK}{M:List Hp}{σ:Nat→AV}{h:Hp}
  {x:Nat×List AV} (hx:JM t σ oj.op=some x) (hgi:JM t σ oi.op=none) (hh:aOpX t pure fl ops oi (fun L M σ h=>aOpX t pure fl ops oj K Kp L M σ h) Kp L M σ h):aOpX t pure fl ops oj (fun L M σ h=>aOpX t pure fl ops oi K Kp L M σ h) Kp L M σ h:=by
 obtain⟨h1,h2,h3⟩:=Oper.apart_spec hap
 have he:clsF pure fl oi.op oi.dst=cls pure oi.op:=((JlB pure fl oi.op oi.dst).ne (by omega)).symm
 simp only[he]at hc
 have hd1:¬ isDP oi.op=true:=JdK (pure:=pure) (by omega)
 have gj:∀ v,JM t (putA σ oi.dst v) oj.op=some x:=fun v=>by rw[XM h1]; exact hx
 have gi:∀ v,JM t (putA σ oj.dst v) oi.op=none:=fun v=>by rw[XM h3]; exact hgi
 rw[Jdz hk.opX hgi hd1]at hh
 rw[Jjn hpure hx]
 simp only[Jjn hpure (gj _),VX (o:=oj) h1]at hh
 simp only[Jdz hk (gi _) hd1,VX (o:=oi) h3,Jjl (o:=oi) h3,Jlv (o:=oi) h3,Jci (o:=oi) h3]
 simp only[he]at hh ⊢
 have hhi:(aop t.P t.Φ t.Ψ oi.op σ h).h=h:=by
  rcases hc with hc | hc
  ·exact(V2 (P:=t.P) (Φ:=t.Φ) (Ψ:=t.Ψ) hpure hc σ h h).2.2
  exact Vn (P:=t.P) (Φ:=t.Φ) (Ψ:=t.Ψ) hc σ h
 have hmi:∀ M h,mX (cls pure oi.op) M h=M:=fun M h=>by unfold mX; rw[if_neg (by omega)]
 simp only[hhi,hmi]at hh ⊢
 have hh':=Jdb (Jy (fun x=>Jy (fun y=>(⟨x.1,y⟩:preX t (cls pure oi.op) oi.op L M σ h∧_)) (fun y=>(⟨x.1,y⟩:preX t (cls pure oi.op) oi.op L M σ h∧_)) x.2) (fun x=>x) hh)
 refine Jy (fun y=>?_) (fun y=>?_) hh'
 ·refine JaN (fun v h' k=>?_) (fun _ _ k=>k) (JqH y)
  refine JiP (Jy (fun z=>?_) (fun z=>?_) k)
  ·obtain⟨z1,z2,z3⟩:=z
   obtain⟨a1,a2,a3,a4⟩:=JAo hpure hc z1 z2
   refine⟨z2.1,a1,?_⟩
   rw[a2,a3,← J1 h2]
   exact hk _ _ _ _ _ _ a4 (fun _ q=>q) z3
  refine⟨z.1,?_⟩
  rw[← J1 h2]; exact z.2
 refine Jy (fun z=>?_) (fun z=>?_) y
 ·refine⟨z.1,?_⟩
  rw[← J1 h2]; exact z.2
 rw[← J1 h2]; exact z
theorem Jw3(hpure:∀ n,pure n=0→(t.Φ n).isSome)(hnp:∀ n,pure n=1→∀ g,t.G n g→∃ val bs ts,g.out=.ret val bs ts){oi oj:Oper}(hap:oi.apart ops oj=true)(hc:clsF pure fl oj.op oj.dst=0∨clsF pure fl oj.op oj.dst=1)(h6:cls pure oi.op≠6){K:XK}(hk:Jfc K){Kp:Value→Hp→Prop}{L:LK}{M:List Hp}{σ:Nat→AV}{h:Hp}
  {x:Nat×List AV} (hx:JM t σ oi.op=some x) (hgj:JM t σ oj.op=none) (hh:aOpX t pure fl ops oi (fun L M σ h=>aOpX t pure fl ops oj K Kp L M σ h) Kp L M σ h):aOpX t pure fl ops oj (fun L M σ h=>aOpX t pure fl ops oi K Kp L M σ h) Kp L M σ h:=by
 obtain⟨h1,h2,h3⟩:=Oper.apart_spec hap
 have hret:∀ g,t.G x.1 g→∃ val bs ts,g.out=.ret val bs ts:=by
  have hc:=JbV hpure hx
  unfold JM at hx
  split at hx
  case h_2=>cases hx
  rename_i c heq
  rw[heq]at hc h6
  obtain⟨callee,args,ts⟩:=c
  simp only at hx
  split at hx
  case h_2=>cases hx
  rename_i f
  cases f with
  | func n =>
   simp only[evA]at hx
   split at hx
   ·cases hx
    simp only[cls]at hc h6
    split at h6
    ·rename_i hz; rw[if_pos hz]at hc; omega
    split at h6
    ·rename_i h1; exact hnp n h1
    exact absurd rfl h6
   cases hx
  | _=>exact absurd rfl h6
 have he:clsF pure fl oj.op oj.dst=cls pure oj.op:=((JlB pure fl oj.op oj.dst).ne (by omega)).symm
 simp only[he]at hc
 have hd1:¬ isDP oj.op=true:=JdK (pure:=pure) (by omega)
 have gj:∀ v,JM t (putA σ oi.dst v) oj.op=none:=fun v=>by rw[XM h1]; exact hgj
 have gi:∀ v,JM t (putA σ oj.dst v) oi.op=some x:=fun v=>by rw[XM h3]; exact hx
 rw[Jjn hpure hx]at hh
 rw[Jdz hk.opX hgj hd1]
 simp only[Jdz hk (gj _) hd1,VX (o:=oj) h1,Jjl (o:=oj) h1,Jlv (o:=oj) h1,Jci (o:=oj) h1]at hh
 simp only[Jjn hpure (gi _),VX (o:=oi) h3]
 simp only[he]at hh ⊢
 have hhj:∀ h,(aop t.P t.Φ t.Ψ oj.op σ h).h=h:=fun h=>by
  rcases hc with hc | hc
  ·exact(V2 (P:=t.P) (Φ:=t.Φ) (Ψ:=t.Ψ) hpure hc σ h h).2.2
  exact Vn (P:=t.P) (Φ:=t.Φ) (Ψ:=t.Ψ) hc σ h
 have hmj:∀ M h,mX (cls pure oj.op) M h=M:=fun M h=>by unfold mX; rw[if_neg (by omega)]
 simp only[hhj,hmj]at hh ⊢
 -- what it reads behind the call it reads ahead of it
 have back:∀ h',preX t (cls pure oj.op) oj.op L (h::M) σ h'→preX t (cls pure oj.op) oj.op L M σ h∧(aop t.P t.Φ t.Ψ oj.op σ h).val=(aop t.P t.Φ t.Ψ oj.op σ h').val∧(∀ h2,lkX t (cls pure oj.op) oj.op L σ h' h2→lkX t (cls pure oj.op) oj.op L σ h h2)∧(L h'→lkX t (cls pure oj.op) oj.op L σ h h'):=by
  intro h' q
  rcases hc with hc | hc
  ·have a:=fun h h'=>V2 (P:=t.P) (Φ:=t.Φ) (Ψ:=t.Ψ) hpure hc σ h h'
   unfold preX lkX at *
   simp only[hc]at *
   exact⟨⟨by simp,by rw[(a h h').1]; exact q.2.1,by simp⟩,(a _ _).2.1,fun _ q=>⟨q.1,by simp⟩,fun q=>⟨q,by simp⟩⟩
  unfold preX lkX at *
  simp only[hc,true_implies]at *
  have q0:=q.1 h (by simp)
  unfold K3 at q0
  refine⟨⟨fun h0 hm=>?_,q0.1,by simp⟩,q0.2,fun h3 r=>⟨r.1,?_⟩,fun r=>⟨r,?_⟩⟩
  ·have:=q.1 h0 (by simp[hm])
   unfold K3 at *
   rw[q0.2]; exact this
  ·have:=r.2
   unfold K3 at *
   rw[q0.2]; exact this
  unfold K3
  rw[q0.2]; exact⟨q.2.1,rfl⟩
 have pull:∀ {g:Option (Nat×Bool)} {A B:AV→Hp→Prop},aGen t x h (fun v h'=>L h'∧JN ops σ g (A v h') (B v h')) Kp→JN ops σ g (aGen t x h (fun v h'=>L h'∧A v h') Kp) (aGen t x h (fun v h'=>L h'∧B v h') Kp):=by
  intro g A B hg
  obtain⟨gi,r,k1,k2,k3⟩:=hg
  obtain⟨val,bs,ts,ho⟩:=hret gi k1
  rw[ho]at k3
  refine Jy (fun y=>?_) (fun y=>?_) k3.2
  ·exact⟨gi,r,k1,k2,by rw[ho]; exact⟨k3.1,y⟩⟩
  exact⟨gi,r,k1,k2,by rw[ho]; exact⟨k3.1,y⟩⟩
 have hh':=Jdb (Jy (fun y=>pull y) (fun y=>y) hh)
 refine Jy (fun y=>JiP (Jy (fun z=>?_) (fun z=>?_) y)) (fun y=>Jy (fun z=>?_) (fun z=>?_) y) hh'
 ·obtain⟨gi,r,k1,k2,k3⟩:=z
  obtain⟨val,bs,ts,ho⟩:=hret gi k1
  rw[ho]at k3
  obtain⟨b1,b2,b3,b4⟩:=back _ k3.2.1
  refine⟨b1,gi,r,k1,k2,?_⟩
  rw[ho]
  refine⟨b4 k3.1,?_⟩
  rw[b2,← J1 h2]
  exact hk _ _ _ _ _ _ b3 (fun _ q=>q) k3.2.2
 ·refine⟨z.1,?_⟩
  rw[← J1 h2]; exact z.2
 ·refine JaN (fun v h' k=>⟨k.1,?_⟩) (fun _ _ k=>k) z
  rw[← J1 h2]; exact k.2
 rw[← J1 h2]; exact z
theorem JCV(hpure:∀ n,pure n=0→(t.Φ n).isSome)(hnp:∀ n,pure n=1→∀ g,t.G n g→∃ val bs ts,g.out=.ret val bs ts){oi oj:Oper}(hap:oi.apart ops oj=true)(hc:JdZ (clsF pure fl oi.op oi.dst) (clsF pure fl oj.op oj.dst)=true){K:XK}(hk:Jfc K){Kp:Value→Hp→Prop}{L:LK}{M:List Hp}{σ:Nat→AV}{h:Hp}(hfr:h.Fr)
  (hh:aOpX t pure fl ops oi (fun L M σ h=>aOpX t pure fl ops oj K Kp L M σ h) Kp L M σ h):aOpX t pure fl ops oj (fun L M σ h=>aOpX t pure fl ops oi K Kp L M σ h) Kp L M σ h:=by
 have hc':=hc
 simp only[JdZ,Bool.and_eq_true,Bool.or_eq_true,beq_iff_eq,bne_iff_ne]at hc'
 cases hgi:JM t σ oi.op with
 | some xi =>
  have k1:=JbV hpure hgi
  have e1:=JnK (fl:=fl) (dst:=oi.dst) k1 (Jjo hgi)
  cases hgj:JM t σ oj.op with
  | some xj =>
   have k2:=JbV hpure hgj
   have e2:=JnK (fl:=fl) (dst:=oj.dst) k2 (Jjo hgj)
   omega
  | none=>exact Jw3 hpure hnp hap (by omega) (by omega) hk hgi hgj hh
 | none =>
  cases hgj:JM t σ oj.op with
  | some xj =>
   have k2:=JbV hpure hgj
   have e2:=JnK (fl:=fl) (dst:=oj.dst) k2 (Jjo hgj)
   exact Jyz hpure hap (by omega) hk hgj hgi hh
  | none=>exact JxW hpure hap hc hk hfr hgi hgj hh
def Jhp(t:Tab)(pure:Nat→Nat)(fl:List Nat)(ops:Array Oper)(i:Nat)(K:XK)(Kp:Value→Hp→Prop)(L:LK)(M:List Hp)(σ:Nat→AV)(h:Hp):Prop :=
 match ops[i]? with
 | none=>K L M σ h
 | some o=>aOpX t pure fl ops o K Kp L M σ h
def JdU(t:Tab)(pure:Nat→Nat)(fl:List Nat)(ops:Array Oper)(K:(Nat→AV)→Hp→Prop)(Kp:Value→Hp→Prop):Nat→Array Bool→LK→List Hp→(Nat→AV)→Hp→Prop
 | 0,listed,_,_,σ,h=>Region.ready .any ops listed=[]∧K σ h
 | f+1,listed,L,M,σ,h=>(Region.ready .any ops listed=[]→K σ h)∧∀ i∈Region.ready .any ops listed,Jhp t pure fl ops i (fun L M σ h=>JdU t pure fl ops K Kp f (listed.setIfInBounds i true) L M σ h) Kp L M σ h
theorem Jml{K:(Nat→AV)→Hp→Prop}{Kp:Value→Hp→Prop}:∀ {f:Nat} {listed:Array Bool},Jfc (fun L M σ h=>JdU t pure fl ops K Kp f listed L M σ h)
 | 0,_,_,_,_,_,_,_,_,_,hh=>hh
 | f+1,_,_,_,_,_,_,_,hL,hM,hh=>⟨hh.1,fun i hi=>by
  have:=hh.2 i hi
  unfold Jhp at *
  split
  ·rename_i h0; rw[h0]at this; exact Jml _ _ _ _ _ _ hL hM this
  rename_i o h0; rw[h0]at this; exact JwO Jml hL hM this⟩
theorem Jjm{K:(Nat→AV)→Hp→Prop}{Kp:Value→Hp→Prop}:∀ {f:Nat} {listed:Array Bool} {L:LK} {M:List Hp} {σ:Nat→AV} {h:Hp},JdU t pure fl ops K Kp f listed L M σ h→aAny t ops K Kp f listed σ h
 | 0,_,_,_,_,_,hh=>hh
 | f+1,_,_,_,_,_,hh=>⟨hh.1,fun i hi=>by
  have:=hh.2 i hi
  unfold Jhp at this
  unfold JgM
  split
  ·rename_i h0; rw[h0]at this; exact Jjm this
  rename_i o h0; rw[h0]at this
  exact JfV (fun _ _ ⟨_,_,x⟩=>Jjm x) (fun _ _ x=>x) (JyF this)⟩
def Jf3(pure:Nat→Nat)(fl:List Nat)(ops:Array Oper)(listed:Array Bool)(k:Nat):Bool :=
 match ops[k]? with
 | none=>false
 | some ok=>(List.range ops.size).all fun j=>j == k || listed.getD j true || JgX ops j k ||
   (match ops[j]? with
    | some oj=>ok.apart ops oj && (JdZ (clsF pure fl ok.op ok.dst) (clsF pure fl oj.op oj.dst) || JlJ ops 9 j k)
    | none=>true)
theorem Jvt{listed:Array Bool}{i j:Nat}{oi oj:Oper}(hi:ops[i]? = some oi)(hj:ops[j]? = some oj)(hji:j≠i)(hdc:DC ops listed)(hin:∀ m,listed.getD m false=true→(ops[m]?).isSome)
  (hf:Jf3 pure fl ops listed i=true) (hiun:listed.getD i true=false) (hr:j∈Region.ready .any ops listed):oi.apart ops oj=true∧JdZ (clsF pure fl oi.op oi.dst) (clsF pure fl oj.op oj.dst)=true:=by
 obtain⟨hjun,oj',hoj',hall⟩:=mem_ready.1 hr
 rw[hj]at hoj'; cases hoj'
 have hjlt:j<ops.size:=(Array.getElem?_eq_some_iff.1 hj).1
 simp only[Jf3,hi,List.all_eq_true,List.mem_range]at hf
 have h1:=hf j hjlt
 simp only[hj,hjun,Bool.or_eq_true,beq_iff_eq,hji,Bool.false_eq_true,or_false,false_or,Bool.and_eq_true]at h1
 have hnot:listed.getD i false=false:=JvN hiun
 rcases h1 with h1 | ⟨h1,h2 | h2⟩
 ·simp only[JgX,hj,List.any_eq_true,Bool.and_eq_true,beq_iff_eq]at h1
  obtain⟨e,he,hb,rfl⟩:=h1
  have:=hall e (by simpa using he) hb
  rw[hnot]at this; cases this
 ·exact⟨h1,h2⟩
 have:=Jhm hdc 9 j oj hj hall hin h2
 rw[hnot]at this; cases this
theorem Jvo{listed:Array Bool}{i j:Nat}(h:Jf3 pure fl ops listed i=true)(hji:j≠i):Jf3 pure fl ops (listed.setIfInBounds j true) i=true:=by
 unfold Jf3 at *
 split
 ·simp_all
 rename_i ok hk
 simp only[hk,List.all_eq_true,List.mem_range]at h ⊢
 intro m hm
 have:=h m hm
 by_cases hmj:j=m
 ·subst hmj
  have hs:(listed.setIfInBounds j true).getD j true=true:=by simp[Array.getElem?_setIfInBounds]; split <;> simp_all
  simp[hs]
 rw[getD_set_ne true hmj]; exact this
theorem Jvj{K:(Nat→AV)→Hp→Prop}{Kp:Value→Hp→Prop}(hpure:∀ n,pure n=0→(t.Φ n).isSome)(hnp:∀ n,pure n=1→∀ g,t.G n g→∃ val bs ts,g.out=.ret val bs ts){i:Nat}{oi:Oper}(hi:ops[i]? = some oi):
  ∀ (fuel:Nat) (listed:Array Bool) (L:LK) (M:List Hp) (σ:Nat→AV) (h:Hp),unl listed≤fuel+1→h.Fr→DC ops listed→(∀ m,listed.getD m false=true→(ops[m]?).isSome)→Jf3 pure fl ops listed i=true→i∈Region.ready .any ops listed →
   aOpX t pure fl ops oi (fun L M σ h=>JdU t pure fl ops K Kp fuel (listed.setIfInBounds i true) L M σ h) Kp L M σ h→JdU t pure fl ops K Kp (fuel+1) listed L M σ h:=by
 intro fuel
 induction fuel with
 | zero =>
  intro listed L M σ h hu hfr hdc hin hf hr H
  refine⟨fun h'=>(by rw[h']at hr; cases hr),fun j hj=>?_⟩
  by_cases hji:j=i
  ·subst hji; simp only[Jhp,hi]; exact H
  have h2:=ready_mono hj hji
  have h3:Region.ready .any ops (listed.setIfInBounds i true)=[]:=JqV (by have:=JfT (mem_ready.1 hr).1; omega)
  rw[h3]at h2
  cases h2
 | succ fuel ih =>
  intro listed L M σ h hu hfr hdc hin hf hr H
  refine⟨fun h'=>(by rw[h']at hr; cases hr),fun j hj=>?_⟩
  by_cases hji:j=i
  ·subst hji; simp only[Jhp,hi]; exact H
  obtain⟨hjun,oj,hoj,hall⟩:=mem_ready.1 hj
  have hiun:=(mem_ready.1 hr).1
  obtain⟨hap,hc⟩:=Jvt hi hoj hji hdc hin hf hiun hj
  have h1:aOpX t pure fl ops oi (fun L M σ h=>aOpX t pure fl ops oj (fun L M σ h=>JdU t pure fl ops K Kp fuel ((listed.setIfInBounds i true).setIfInBounds j true) L M σ h) Kp L M σ h) Kp L M σ h:=JkO (fun L' M' σ' h' hx=>by
   have:=hx.2 j (ready_mono hj hji)
   simp only[Jhp,hoj]at this
   exact this) (fun _ _ x=>x) H
  have h2:=Jm6 hfr (JCV hpure hnp hap hc Jml hfr h1)
  simp only[Jhp,hoj]
  refine JkO (fun L' M' σ' h' hx=>ih (listed.setIfInBounds j true) L' M' σ' h' (by have:=JfT hjun; omega) hx.1 (hdc.set hj) (JnD hin (by rw[hoj]; rfl)) (Jvo hf hji) (ready_mono hr (Ne.symm hji)) ?_) (fun _ _ x=>x) h2
  rw[Array.setIfInBounds_comm _ _ hji]
  exact hx.2
def JlA(t:Tab)(pure:Nat→Nat)(fl:List Nat)(ops:Array Oper)(K:XK)(Kp:Value→Hp→Prop):List Oper→LK→List Hp→(Nat→AV)→Hp→Prop
 | [],L,M,σ,h=>K L M σ h
 | o::l,L,M,σ,h=>aOpX t pure fl ops o (fun L M σ h=>JlA t pure fl ops K Kp l L M σ h) Kp L M σ h
def seqX(pure:Nat→Nat)(fl:List Nat)(ops:Array Oper):List Nat→Array Bool→Bool
 | [],_=>true
 | k::ks,listed=>(Region.ready .any ops listed).contains k && Jf3 pure fl ops listed k && seqX pure fl ops ks (listed.setIfInBounds k true)
def Jiz:List Nat→Array Bool→Array Bool
 | [],l=>l
 | k::ks,l=>Jiz ks (l.setIfInBounds k true)
def pick(ops:Array Oper):List Nat→List Oper
 | []=>[]
 | k::ks=>match ops[k]? with
  | some o=>o::pick ops ks
  | none=>pick ops ks
theorem Jru{K:(Nat→AV)→Hp→Prop}{Kp:Value→Hp→Prop}(hpure:∀ n,pure n=0→(t.Φ n).isSome)(hnp:∀ n,pure n=1→∀ g,t.G n g→∃ val bs ts,g.out=.ret val bs ts)(n:Nat):∀ (ks:List Nat) (listed:Array Bool) (L:LK) (M:List Hp) (σ:Nat→AV) (h:Hp),unl listed≤ks.length+n→h.Fr→DC ops listed→(∀ m,listed.getD m false=true→(ops[m]?).isSome) →
  seqX pure fl ops ks listed=true→JlA t pure fl ops (fun L M σ h=>JdU t pure fl ops K Kp n (Jiz ks listed) L M σ h) Kp (pick ops ks) L M σ h→JdU t pure fl ops K Kp (ks.length+n) listed L M σ h
 | [],_,_,_,_,_,_,_,_,_,_,hh=>by simpa [JlA,Jiz,pick] using hh
 | k::ks,listed,L,M,σ,h,hu,hfr,hdc,hin,hB,hh=>by
  simp only[seqX,Bool.and_eq_true]at hB
  obtain⟨⟨hr,hf⟩,hB'⟩:=hB
  have hr':k∈Region.ready .any ops listed:=by simpa using hr
  obtain⟨_,o,h0,_⟩:=mem_ready.1 hr'
  have e:(k::ks).length+n=(ks.length+n)+1:=by simp; omega
  rw[e]
  simp only[pick,h0]at hh
  refine Jvj hpure hnp h0 (ks.length+n) listed L M σ h (by rw[← e]; exact hu) hfr hdc hin hf hr' ?_
  refine JkO (fun L' M' σ' h' hx=>?_) (fun _ _ x=>x) (Jm6 hfr hh)
  exact Jru hpure hnp n ks _ L' M' σ' h' (by have:=JfT (mem_ready.1 hr').1; rw[e]at hu; omega) hx.1 (hdc.set hr') (JnD hin (by rw[h0]; rfl)) hB' hx.2
theorem JAc{K:(Nat→AV)→Hp→Prop}{Kp:Value→Hp→Prop}(hpure:∀ n,pure n=0→(t.Φ n).isSome)(hnp:∀ n,pure n=1→∀ g,t.G n g→∃ val bs ts,g.out=.ret val bs ts){id:Nat}{σ:Nat→AV}{h:Hp}(ks:List Nat)(hlk:t.lk.contains id=true)
  (hmn:ops.size=ks.length) (hB:seqX pure fl ops ks (Array.replicate ops.size false)=true) (hh:JlA t pure fl ops (fun L M σ h=>JdU t pure fl ops K Kp 0 (Jiz ks (Array.replicate ops.size false)) L M σ h) Kp (pick ops ks) (fun _=>True) [] σ h):aReg t id ops true K Kp σ h:=by
 unfold aReg
 rw[if_pos (by simpa using hlk)]
 intro hfr
 have h0:∀ m,(Array.replicate ops.size false).getD m false=false:=fun m=>by
  simp only[Array.getD_eq_getD_getElem?,Array.getElem?_replicate]
  split <;> rfl
 have:=Jru (t:=t) (pure:=pure) (ops:=ops) (K:=K) (Kp:=Kp) hpure hnp 0 ks (Array.replicate ops.size false) (fun _=>True) [] σ h (by rw[← hmn]; simp[unl]) hfr (fun m o _ hm=>by rw[h0]at hm; cases hm) (fun m hm=>by rw[h0]at hm; cases hm) hB hh
 rw[Nat.add_zero,← hmn]at this
 exact Jjm this
def aRX(t:Tab)(pure:Nat→Nat)(fl:List Nat)(K:XK)(Kp:Value→Hp→Prop):List RdO→LK→List Hp→(Nat→AV)→Hp→Prop
 | [],L,M,σ,h=>K L M σ h
 | o::l,L,M,σ,h=>aGd σ o.g (fun σ=>JaM t (clsF pure fl o.op o.dst) o.op o.dst (fun L M σ h=>aRX t pure fl K Kp l L M σ h) Kp L M σ h) (fun σ=>aRX t pure fl K Kp l L M (putA σ o.dst KP) h)
theorem Jl0{K:XK}{Kp:Value→Hp→Prop}:∀ (l:List Oper) (L:LK) (M:List Hp) (σ:Nat→AV) (h:Hp),(l.all (V1 ops))=true→aRX t pure fl K Kp (l.map (roOf ops)) L M σ h→JlA t pure fl ops K Kp l L M σ h
 | [],_,_,_,_,_,hh=>hh
 | o::l,L,M,σ,h,hg,hh=>by
  simp only[List.all_cons,Bool.and_eq_true]at hg
  simp only[List.map_cons,aRX]at hh
  simp only[JlA,aOpX]
  have ih:=fun L M σ h=>Jl0 (K:=K) (Kp:=Kp) l L M σ h hg.2
  have h1:=hg.1
  unfold V1 at h1
  unfold aGd roOf at hh
  unfold JN
  split
  ·rename_i hgd; rw[hgd]at hh; exact Ji2 (fun _ _ _ _=>ih _ _ _ _) (fun _ _ x=>x) hh
  rename_i j want hgd
  rw[hgd]at hh h1
  simp only at hh h1
  split
  ·rename_i hs; rw[hs]at h1; cases h1
  rename_i d hs
  rw[hs]at hh
  simp only at hh
  split
  ·rename_i p hp
   rw[hp]at hh
   refine⟨fun x=>?_,fun x=>?_⟩
   ·have:=hh.1 x
    rw[Jhg hp x]at this
    exact Ji2 (fun _ _ _ _=>ih _ _ _ _) (fun _ _ x=>x) this
   have:=hh.2 x
   rw[Jhg hp x]at this
   exact ih _ _ _ _ this
  ·rename_i hp; rw[hp]at hh; exact ih _ _ _ _ hh
  rename_i h2 h3
  split at hh
  ·rename_i p hp; exact(h2 _ hp).elim
  ·rename_i vs hp; exact(h3 _ hp).elim
  exact hh.elim
def JuV(c:Nat):Bool:=!(c == 1 || c == 2 || c == 4 || c == 6)
theorem Jls{K:XK}{Kp:Value→Hp→Prop}{L:LK}{M:List Hp}{l2:List RdO}:∀ {l1:List RdO} {σ:Nat→AV} {h:Hp},(l1.all fun o=>JuV (clsF pure fl o.op o.dst))=true→aRO t (fun σ h=>aRX t pure fl K Kp l2 L M σ h) l1 σ h→aRX t pure fl K Kp (l1++l2) L M σ h
 | [],_,_,_,hh=>hh
 | o::l1,σ,h,hc,hh=>by
  simp only[List.all_cons,Bool.and_eq_true]at hc
  simp only[aRO,aRX,List.cons_append]at hh ⊢
  unfold aGd at *
  have hcl:clsF pure fl o.op o.dst≠1∧¬ (clsF pure fl o.op o.dst=2∨clsF pure fl o.op o.dst=4∨clsF pure fl o.op o.dst=6):=by
   have:=hc.1
   simp only[JuV,Bool.not_eq_true',Bool.or_eq_false_iff,beq_eq_false_iff_ne]at this
   omega
  have run:∀ σ,((aop t.P t.Φ t.Ψ o.op σ h).pre∧aRO t (fun σ h=>aRX t pure fl K Kp l2 L M σ h) l1 (putA σ o.dst (aop t.P t.Φ t.Ψ o.op σ h).val) (aop t.P t.Φ t.Ψ o.op σ h).h)→JaM t (clsF pure fl o.op o.dst) o.op o.dst (fun L M σ h=>aRX t pure fl K Kp (l1++l2) L M σ h) Kp L M σ h:=fun σ x=>by
   obtain⟨q1,q2⟩:=Jk0 x.1
   unfold JaM
   rw[if_neg hcl.1,if_neg hcl.2]
   unfold aRun
   rw[q1]
   simp only
   rw[if_neg q2]
   exact⟨x.1,Jls hc.2 x.2⟩
  split at hh
  ·exact run _ hh
  split at hh
  ·exact⟨fun x=>run _ (hh.1 x),fun x=>Jls hc.2 (hh.2 x)⟩
  ·exact Jls hc.2 hh
  exact hh.elim
theorem JqK{id:Nat}{Q:Kl}{σ:Nat→AV}{h:Hp}(hpure:∀ n,pure n=0→(t.Φ n).isSome)(hnp:∀ n,pure n=1→∀ g,t.G n g→∃ val bs ts,g.out=.ret val bs ts)(ks:List Nat)(hlk:t.lk.contains id=true)
  (hmn:ops.size=ks.length) (hB:seqX pure fl ops ks (Array.replicate ops.size false)=true) (hg:((pick ops ks).all (V1 ops))=true)
  (hh:aRX t pure fl (fun L M σ' h'=>JdU t pure fl ops (Q .normal) (fun v h'=>Q (.panic [{ v:=v,recovered:=false }]) (Ku ops σ) h') 0 (Jiz ks (Array.replicate ops.size false)) L M σ' h') (fun v h'=>Q (.panic [{ v:=v,recovered:=false }]) (Ku ops σ) h') ((pick ops ks).map (roOf ops)) (fun _=>True) [] σ h):aC t (.region id ops true) σ h Q :=
 ⟨σ,h,Wk.refl _ _ _,.inl (JAc hpure hnp ks hlk hmn hB (Jl0 _ _ _ _ _ hg hh))⟩
end
end Go.Proofs.YtfkhlbhjhdpkoaaGreatDoor
