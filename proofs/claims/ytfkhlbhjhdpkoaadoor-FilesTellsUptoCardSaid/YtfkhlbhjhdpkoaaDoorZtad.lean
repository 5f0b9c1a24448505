/- Code,and functions of data. -/
import Derived.Test.YtfkhlbhjhdpkoaaDoorZtac
import Derived.Deep.LoopGhost
import Derived.RangeFuncIn
import Derived.RangeFuncCalls
import Derived.RangeFuncLeaves
import Derived.RangeFuncRecord
import Derived.Sort.LoopGhostIn
import Derived.OrdersIn
import Derived.TacticsIn
import Derived.Lib.IndexLaws
import Derived.Recover
set_option linter.unusedVariables false
set_option linter.unusedSimpArgs false
namespace Go.Proofs.YtfkhlbhjhdpkoaaDoor
open Go.RowKit
structure Hp.Good (h:Hp):Prop where
 H:∀ n,h.nx≤n→h.H n=none
 T:∀ n,h.nx≤n→h.T n=none
 T0:h.T 0=none
 nx:0<h.nx
theorem WInv.good{Γ:Ctx}{h:Hp}{e:Env}(hw:WInv Γ h e):h.Good :=
 ⟨fun n hn=>(hw.fresh n hn).1,fun n hn=>(hw.fresh n hn).2.1,by
  cases hT:h.T 0 with
  | none=>rfl
  | some ty=>exact absurd rfl (hw.tok 0 ty hT).1,hw.nx0⟩
abbrev Kt:=Exit→(Nat→AV)→Hp→Prop
structure Given (p q:Prop):Prop where
 get:p→q
def Jlb(lk:List Nat)(nt:Nat):Bool:=lk.all fun x=>x.blt 1000000 || x.beq (1000000+nt)
theorem JkA{lk:List Nat}{nt n:Nat}(h:Jlb lk nt=true)(hn:lk.contains (1000000+n)=true):nt=n:=by
 have:=List.all_eq_true.1 h _ (by simpa using hn)
 simp only[Bool.or_eq_true,Nat.blt_eq,Nat.beq_eq]at this
 omega
def Jng(P:Program)(lk:List Nat)(id:Nat)(ops:Array Oper)(draw:Bool)(σ:Nat→AV)(h:Hp)(σ2:Nat→AV)(h2:Hp):Prop :=
 lk.contains 999999=false∧∀ (Γ:Ctx) (a:Act) (e:Env),Γ.P=P→(∀ n,lk.contains (1000000+n)=true→Γ.nt=n)→Jm Γ.nt Γ.ds σ a e→WInv Γ h e →
  (Code.region id ops draw).wp P (fun ex a' w'=>ex=.normal∧∃ e',e'.w=w'∧Jm Γ.nt Γ.ds σ2 a' e'∧WInv Γ h2 e') a e.w
def aC(t:Tab):Code→(Nat→AV)→Hp→Kt→Prop
 | .skip,σ,h,Q=>Q .normal σ h
 | .region id ops draw,σ,h,Q=>∃ σ1 h1,Wk t.rt σ h σ1 h1∧(aReg t id ops draw (Q .normal) (fun v h'=>Q (.panic [{ v:=v,recovered:=false }]) (KF ops σ1) h') σ1 h1∨∃ σ2 h2,Jng t.P t.lk id ops draw σ1 h1 σ2 h2∧Q .normal σ2 h2)
 | .seq a b,σ,h,Q=>aC t a σ h (fun ex σ' h'=>match ex with | .normal=>∃ σ2 h2,Wk t.rt σ' h' σ2 h2∧Given h2.Good (aC t b σ2 h2 Q) | ex=>Q ex σ' h')
 | .cond c x y,σ,h,Q=>match evA σ c with
  | .c (.d (.v (.bool p)))=>(p=true→aC t x σ h Q)∧(p=false→aC t y σ h Q)
  | _=>False
 | .block id b,σ,h,Q=>aC t b σ h (fun ex σ' h'=>match ex with | .exit j=>if j=id then Q .normal σ' h' else Q (.exit j) σ' h' | ex=>Q ex σ' h')
 | .loop b,σ,h,Q=>∃ I:Nat→(Nat→AV)→Hp→Prop,(∃ n σ1 h1,Wk t.rt σ h σ1 h1∧I n σ1 h1)∧∀ n σ' h',I n σ' h'→h'.Good→aC t b σ' h' (fun ex σ'' h''=>match ex with | .normal=>∃ m σ3 h3,m<n∧Wk t.rt σ'' h'' σ3 h3∧I m σ3 h3 | ex=>Q ex σ'' h'')
 | .exit id,σ,h,Q=>Q (.exit id) σ h
 | .ret,σ,h,Q=>Q .ret σ h
 | _,_,_,_=>False
def KG(pure:Nat→Nat)(lk:List Nat)(nt:Nat):Code→Bool
 | .region id ops draw=>((ops.toList.all (opIn nt ops) && Jbv ops.toList) && (!draw || ((lk.contains id || JfD pure ops) && ops.toList.all fun o=>!Xe o.op))) && Jlb lk nt
 | .seq a b=>KG pure lk nt a && KG pure lk nt b
 | .cond c x y=>(match c with | .tmp t=>decide (t<nt) | _=>true) && KG pure lk nt x && KG pure lk nt y
 | .block _ b=>KG pure lk nt b
 | .loop b=>KG pure lk nt b
 | _=>true
theorem XQ{Γ:Ctx}{t:Tab}{pure:Nat→Nat}(ht:TabOk t)(hP:t.P=Γ.P)(hrt:Γ.root.length=t.rt)(hm:Γ.P.follows .mixedOrders=true)(hpure:∀ n,pure n=0→(t.Φ n).isSome)(hnp:∀ n,pure n=1→∀ g,t.G n g→∃ val bs ts,g.out=.ret val bs ts):
  ∀ (c:Code) (Q:Kt) (Q':Exit→Act→World→Prop),KG pure t.lk Γ.nt c=true→(∀ ex σ h a e,Q ex σ h→Jm Γ.nt Γ.ds σ a e→WInv Γ h e→Q' ex a e.w) →
   ∀ (σ:Nat→AV) (h:Hp) (a:Act) (e:Env),aC t c σ h Q→Jm Γ.nt Γ.ds σ a e→WInv Γ h e→c.wp Γ.P Q' a e.w
 | .skip,Q,Q',_,hQ,σ,h,a,e,hh,hs,hw=>wp_skip (hQ _ _ _ _ _ hh hs hw)
 | .region id ops draw,Q,Q',hc,hQ,σ,h,a,e,hh,hs,hw=>by
  simp only[KG,Bool.and_eq_true,Bool.or_eq_true]at hc
  obtain⟨hc,hnt⟩:=hc
  obtain⟨σ1,h1,hwk,hh⟩:=hh
  obtain⟨e1,he,hs,hw⟩:=hwk Γ a e hrt hs hw
  rw[← he]
  rcases hh with hh | ⟨σ2,h2,hr,hq⟩
  case inr =>
   rw[← hP]
   exact Code.wp_mono (fun ex a' w' ⟨hx,e',h1,h2,h3⟩=>by subst hx; subst h1; exact hQ _ _ _ _ _ hq h2 h3) (hr.2 Γ a e1 hP.symm (fun n hn=>JkA hnt hn) hs hw)
  exact Jhi ht hP hm hpure hnp hc.1.1 (fun hd=>by rcases hc.2 with h | h; rw[hd]at h; cases h; exact h) hc.1.2 (fun σ h a e hk=>hQ _ σ h a e hk) (fun v h a e hk=>hQ _ _ h a e hk) hh hs hw
 | .seq x y,Q,Q',hc,hQ,σ,h,a,e,hh,hs,hw=>by
  simp only[KG,Bool.and_eq_true]at hc
  refine wp_seq (XQ ht hP hrt hm hpure hnp x _ _ hc.1 (fun ex σ h a e hk hs hw=>?_) σ h a e hh hs hw)
  cases ex with
  | normal =>
   obtain⟨σ2,h2,hwk,hk⟩:=hk
   obtain⟨e2,he,hs2,hw2⟩:=hwk Γ a e hrt hs hw
   rw[← he]
   exact XQ ht hP hrt hm hpure hnp y Q Q' hc.2 hQ σ2 h2 a e2 (hk.get hw2.good) hs2 hw2
  | exit id=>exact hQ _ _ _ _ _ hk hs hw
  | goto l=>exact hQ _ _ _ _ _ hk hs hw
  | ret=>exact hQ _ _ _ _ _ hk hs hw
  | panic ch=>exact hQ _ _ _ _ _ hk hs hw
  | outgrown=>exact hQ _ _ _ _ _ hk hs hw
 | .cond c x y,Q,Q',hc,hQ,σ,h,a,e,hh,hs,hw=>by
  simp only[KG,Bool.and_eq_true]at hc
  simp only[aC]at hh
  split at hh
  ·rename_i p hp
   have hr:=Jem hs c (fun t ht=>by subst ht; simpa using hc.1.1)
   rw[hp]at hr
   have hr:=R1.vInv hr
   exact wp_cond_split hr (fun h1=>XQ ht hP hrt hm hpure hnp x Q Q' hc.1.2 hQ σ h a e (hh.1 h1) hs hw) (fun h1=>XQ ht hP hrt hm hpure hnp y Q Q' hc.2 hQ σ h a e (hh.2 h1) hs hw)
  ·exact hh.elim
 | .block id b,Q,Q',hc,hQ,σ,h,a,e,hh,hs,hw=>by
  refine wp_block (XQ ht hP hrt hm hpure hnp b _ _ hc (fun ex σ h a e hk hs hw=>?_) σ h a e hh hs hw)
  cases ex with
  | normal=>exact hQ _ _ _ _ _ hk hs hw
  | exit j =>
   simp only[Exit.inBlock]
   simp only at hk
   split at hk
   ·rename_i hj; rw[if_pos hj]; exact hQ _ _ _ _ _ hk hs hw
   ·rename_i hj; rw[if_neg hj]; exact hQ _ _ _ _ _ hk hs hw
  | goto l=>exact hQ _ _ _ _ _ hk hs hw
  | ret=>exact hQ _ _ _ _ _ hk hs hw
  | panic ch=>exact hQ _ _ _ _ _ hk hs hw
  | outgrown=>exact hQ _ _ _ _ _ hk hs hw
 | .loop b,Q,Q',hc,hQ,σ,h,a,e,hh,hs,hw=>by
  obtain⟨I,⟨n₀,σ1,h1,hwk,h0⟩,hround⟩:=hh
  obtain⟨e1,he,hs1,hw1⟩:=hwk Γ a e hrt hs hw
  refine wp_loop_ghost (fun n a' w'=>∃ σ' h' e',e'.w=w'∧I n σ' h'∧Jm Γ.nt Γ.ds σ' a' e'∧WInv Γ h' e') n₀ ⟨σ1,h1,e1,he,h0,hs1,hw1⟩ ?_
  rintro n a' w' ⟨σ',h',e',rfl,hI,hs',hw'⟩
  refine XQ ht hP hrt hm hpure hnp b _ _ hc (fun ex σ h a e hk hs hw=>?_) σ' h' a' e' (hround n σ' h' hI hw'.good) hs' hw'
  cases ex with
  | normal =>
   obtain⟨m,σ3,h3,hm,hwk,hI'⟩:=hk
   obtain⟨e3,he3,hs3,hw3⟩:=hwk Γ a e hrt hs hw
   exact⟨m,hm,σ3,h3,e3,he3,hI',hs3,hw3⟩
  | exit id=>exact hQ _ _ _ _ _ hk hs hw
  | goto l=>exact hQ _ _ _ _ _ hk hs hw
  | ret=>exact hQ _ _ _ _ _ hk hs hw
  | panic ch=>exact hQ _ _ _ _ _ hk hs hw
  | outgrown=>exact hQ _ _ _ _ _ hk hs hw
 | .exit id,Q,Q',_,hQ,σ,h,a,e,hh,hs,hw=>wp_exit (hQ _ _ _ _ _ hh hs hw)
 | .ret,Q,Q',_,hQ,σ,h,a,e,hh,hs,hw=>wp_ret (hQ _ _ _ _ _ hh hs hw)
 | .rangeFunc _ _ _ _,_,_,_,_,_,_,_,_,hh,_,_=>hh.elim
 | .scope _,_,_,_,_,_,_,_,_,hh,_,_=>hh.elim
 | .label _,_,_,_,_,_,_,_,_,hh,_,_=>hh.elim
 | .goto _,_,_,_,_,_,_,_,_,hh,_,_=>hh.elim
 | .refuse _,_,_,_,_,_,_,_,_,hh,_,_=>hh.elim
theorem Jt{P:Program}{f:Nat}{fn:Func}(hf:P.funcs[f]? = some fn)(hn:(fn.name == "runtime.NumGoroutine")=false)(hb:fn.body.isNone=false):Jg P f:=by
 intro args w
 simp only[callFunc,Sem.run_bind,run_program,Result.andThen_ok,hf,hn,hb,Bool.false_eq_true,if_false,Sem.run_pure]
def sig0(args:List AV):Nat→AV:=fun i=>args.getD i KP
theorem JfQ{args:List AV}(h:args.length≤DS):dfL (sig0 args DS)=[]:=by
 unfold sig0
 rw[List.getD_eq_getElem?_getD,List.getElem?_eq_none h]
 rfl
theorem RDf.nil{e:Env}{a:AV}{l:List Deferred}(h:dfL a=[])(k:RDf e [] a l):l=[]:=by
 obtain⟨r,h1,h2⟩:=k
 rw[h]at h2
 cases r with
 | nil=>simpa using h1
 | cons _ _=>exact h2.elim
def hp0:Hp:=⟨fun _=>none,fun _=>none,1⟩
def XV(P:Program)(σ:Nat→AV)(h:Hp):ResultVar→Prop×D
 | .tmp t=>((σ t).isD=true,(σ t).toD)
 | .cell a ty=>match σ a with
  | .c (.pt n 0)=>match h.H n with
   | some row=>(rowP row=true∧(Ka P h ty row 0).pre∧(Ka P h ty row 0).val.isD=true,(Ka P h ty row 0).val.toD)
   | none=>(False,.v undef)
  | _=>(False,.v undef)
def VW(nt:Nat):ResultVar→Bool
 | .tmp t=>decide (t<nt)
 | .cell a _=>decide (a<nt)
def JaN:List D→D
 | [d]=>d
 | l=>.tu l
def le0:D→D→Prop
 | .sl sz l,.sl sz' l'=>l=l'∧(sz=sz'∨l=[])
 | x,y=>x=y
def les0:List D→List D→Prop
 | [],[]=>True
 | x::l,y::m=>le0 x y∧les0 l m
 | _,_=>False
def le1:D→D→Prop
 | .ag l,.ag m=>les0 l m
 | x,y=>le0 x y
def les1:List D→List D→Prop
 | [],[]=>True
 | x::l,y::m=>le1 x y∧les1 l m
 | _,_=>False
def le2:D→D→Prop
 | .tu l,.tu m=>les1 l m
 | x,y=>le1 x y
theorem Jla{w:World}{S:Nat→Nat→Prop}{x y:D}{v:Value}(h:le0 x y)(k:R1 w S x v):R1 w S y v:=by
 unfold le0 at h
 split at h
 ·obtain⟨rfl,h⟩:=h
  exact k.resize h.symm
 ·subst h; exact k
theorem Ji2{w:World}{S:Nat→Nat→Prop}:∀ {l m:List D} {vs:List Value},les0 l m→Rn w S l vs→Rn w S m vs
 | [],[],_,_,k=>k
 | _::_,_::_,_,⟨h1,h2⟩,k=>by cases k with | acons _ _ _ _ k1 k2=>exact .acons _ _ _ _ (Jla h1 k1) (Ji2 h2 k2)
 | [],_::_,_,h,_=>h.elim
 | _::_,[],_,h,_=>h.elim
theorem Jkv{w:World}{S:Nat→Nat→Prop}{x y:D}{v:Value}(h:le1 x y)(k:R1 w S x v):R1 w S y v:=by
 unfold le1 at h
 split at h
 ·obtain⟨vs,rfl,k2⟩:=R1.agInv k
  exact .ag _ _ (Ji2 h k2)
 ·exact Jla h k
theorem JcA{w:World}{S:Nat→Nat→Prop}:∀ {l m:List D} {vs:List Value},les1 l m→Rn w S l vs→Rn w S m vs
 | [],[],_,_,k=>k
 | _::_,_::_,_,⟨h1,h2⟩,k=>by cases k with | acons _ _ _ _ k1 k2=>exact .acons _ _ _ _ (Jkv h1 k1) (JcA h2 k2)
 | [],_::_,_,h,_=>h.elim
 | _::_,[],_,h,_=>h.elim
theorem JmT{w:World}{S:Nat→Nat→Prop}{x y:D}{v:Value}(h:le2 x y)(k:R1 w S x v):R1 w S y v:=by
 unfold le2 at h
 split at h
 ·obtain⟨vs,rfl,k2⟩:=R1.tuInv k
  exact .tu _ _ (JcA h k2)
 ·exact Jkv h k
def Ja6:D→D
 | .sl _ l=>.sl 0 l
 | d=>d
def VC:D→D
 | .ag l=>.ag (l.map Ja6)
 | d=>Ja6 d
theorem JkB{x y:D}(h:le0 x y):Ja6 x=Ja6 y:=by
 unfold le0 at h
 split at h
 ·obtain⟨rfl,_⟩:=h; rfl
 ·subst h; rfl
theorem JeZ:∀ {l m:List D},les0 l m→l.map Ja6=m.map Ja6
 | [],[],_=>rfl
 | _::_,_::_,⟨h1,h2⟩=>by rw[List.map_cons,List.map_cons,JkB h1,JeZ h2]
 | [],_::_,h=>h.elim
 | _::_,[],h=>h.elim
theorem Jkc{x y:D}(h:le1 x y):VC x=VC y:=by
 unfold le1 at h
 split at h
 ·simp only[VC,JeZ h]
 ·unfold le0 at h
  split at h
  ·obtain⟨rfl,_⟩:=h; rfl
  ·subst h; rfl
theorem JcZ:∀ {l m:List D},les1 l m→l.map VC=m.map VC
 | [],[],_=>rfl
 | _::_,_::_,⟨h1,h2⟩=>by rw[List.map_cons,List.map_cons,Jkc h1,JcZ h2]
 | [],_::_,h=>h.elim
 | _::_,[],h=>h.elim
theorem Jli(x:D):le0 x x:=by cases x <;> simp[le0]
theorem JgB:∀ l:List D,les0 l l
 | []=>trivial
 | x::l=>⟨Jli x,JgB l⟩
theorem Jlk(x:D):le1 x x:=by cases x <;> simp[le1,le0,JgB]
theorem Jb8:∀ l:List D,les1 l l
 | []=>trivial
 | x::l=>⟨Jlk x,Jb8 l⟩
def aRet(P:Program)(rs:List ResultVar)(σ:Nat→AV)(h:Hp)(d:D):Prop :=
 (∀ r∈rs,(XV P σ h r).1)∧le2 (JaN (rs.map fun r=>(XV P σ h r).2)) d
theorem JlF{Γ:Ctx}{σ:Nat→AV}{h:Hp}{a:Act}{e:Env}(hs:Jm Γ.nt Γ.ds σ a e)(hw:WInv Γ h e){r:ResultVar}(hin:VW Γ.nt r=true)(hp:(XV Γ.P σ h r).1):
  ∃ v,(match r with | .tmp t=>pure (a.tmps.getD t undef) | .cell x ty=>do loadVar ty (← asAddr (a.tmps.getD x undef)):Sem Value).run Γ.P e.w=.ok v e.w∧R1 e.w e.S (XV Γ.P σ h r).2 v:=by
 cases r with
 | tmp t =>
  simp only[VW,decide_eq_true_eq]at hin
  exact⟨_,by simp,(hs.2.2 t hin).toD hp⟩
 | cell x ty =>
  simp only[VW,decide_eq_true_eq]at hin
  have hx:=hs.2.2 x hin
  simp only[XV]at hp ⊢
  split at hp
  ·rename_i n hσ
   split at hp
   ·rename_i row hrow
    rw[hσ]at hx
    obtain⟨b,h2,h3⟩:=hx
    obtain⟨b',cs,ty',h4,h5,h6,h7,_⟩:=hw.boxAt h2 row hrow (V1 hp.1)
    rw[h2]at h4
    simp at h4
    subst h4
    obtain⟨v,h8,h9⟩:=Ja8 (b:=b) (o:=0) hp.2.1 (h6.plain hp.1) (fun i x hx=>by simp[World.cell?,h5]; simpa using hx)
    refine⟨v,?_,h9.toD hp.2.2⟩
    simp only[Nat.zero_add]at h8
    simp only[h3,asAddr,Sem.run_bind,Sem.run_pure,Result.andThen_ok]
    simpa [Instr.loadAt,Instr.sureAddr] using h8
   ·exact hp.elim
  ·exact hp.elim
theorem Jex{Γ:Ctx}{σ:Nat→AV}{h:Hp}{a:Act}{e:Env}(hs:Jm Γ.nt Γ.ds σ a e)(hw:WInv Γ h e):∀ (rs:List ResultVar),(rs.all (VW Γ.nt))=true→(∀ r∈rs,(XV Γ.P σ h r).1) →
  ∃ vs,(rs.mapM fun r=>(match r with | .tmp t=>pure (a.tmps.getD t undef) | .cell x ty=>do loadVar ty (← asAddr (a.tmps.getD x undef)):Sem Value)).run Γ.P e.w=.ok vs e.w∧Rn e.w e.S (rs.map fun r=>(XV Γ.P σ h r).2) vs
 | [],_,_=>⟨[],by simp,.anil⟩
 | r::rs,hin,hp=>by
  simp only[List.all_cons,Bool.and_eq_true]at hin
  obtain⟨v,h1,h2⟩:=JlF hs hw hin.1 (hp r (by simp))
  obtain⟨vs,h3,h4⟩:=Jex hs hw rs hin.2 (fun r hr=>hp r (by simp[hr]))
  refine⟨v::vs,?_,.acons _ _ _ _ h2 h4⟩
  rw[List.mapM_cons,Sem.run_bind,h1,Result.andThen_ok,Sem.run_bind,h3]
  rfl
theorem Jdp{Γ:Ctx}{σ:Nat→AV}{h:Hp}{a:Act}{e:Env}{fn:Func}{d:D}(hs:Jm Γ.nt Γ.ds σ a e)(hw:WInv Γ h e)(hin:(fn.results.toList.all (VW Γ.nt))=true)(hr:aRet Γ.P fn.results.toList σ h d):
  ∃ v,(results fn a.tmps).run Γ.P e.w=.ok v e.w∧R1 e.w e.S d v:=by
 obtain⟨vs,h1,h2⟩:=Jex hs hw fn.results.toList hin hr.1
 have hle:=hr.2
 suffices hsuf:∃ v,(results fn a.tmps).run Γ.P e.w=.ok v e.w∧R1 e.w e.S (JaN (fn.results.toList.map fun r=>(XV Γ.P σ h r).2)) v by
  obtain⟨v,k1,k2⟩:=hsuf
  exact⟨v,k1,JmT hle k2⟩
 have hd:JaN (fn.results.toList.map fun r=>(XV Γ.P σ h r).2)=JaN (fn.results.toList.map fun r=>(XV Γ.P σ h r).2):=rfl
 generalize hdd:JaN (fn.results.toList.map fun r=>(XV Γ.P σ h r).2)=d at hd ⊢
 have hd:=hdd
 have hrun:(fn.results.mapM fun r=>(match r with | .tmp t=>pure (a.tmps.getD t undef) | .cell x ty=>do loadVar ty (← asAddr (a.tmps.getD x undef)):Sem Value)).run Γ.P e.w=.ok vs.toArray e.w:=by
  rw[Array.mapM_eq_mapM_toList,Sem.run_map,h1]; rfl
 refine⟨if h:vs.toArray.size=1 then vs.toArray[0] else .tuple vs.toArray,?_,?_⟩
 ·unfold results
  rw[Sem.run_bind]
  erw [hrun]
  rfl
 ·generalize (fn.results.toList.map fun r=>(XV Γ.P σ h r).2)=ds at h2 hd
  cases ds with
  | nil=>cases h2; subst hd; exact .tu _ _ .anil
  | cons x ds =>
   cases ds with
   | nil =>
    cases h2 with
    | acons _ v _ vs h3 h4=>cases h4; subst hd; simpa [JaN] using h3
   | cons y ds =>
    cases h2 with
    | acons _ v _ vs h3 h4 =>
     cases h4 with
     | acons _ u _ us h5 h6 =>
      subst hd
      simp only[JaN]
      rw[dif_neg (by simp)]
      exact .tu _ _ (.acons _ _ _ _ h3 (.acons _ _ _ _ h5 h6))
def QRet(P:Program)(fn:Func)(d:D):Kt:=fun ex σ h =>
 match ex with
 | .ret=>aRet P fn.results.toList σ h d∧dfL (σ DS)=[]
 | .normal=>aRet P fn.results.toList σ h d∧dfL (σ DS)=[]
 | _=>False
def JaZ(P:Program)(rt:Nat)(fn:Func)(d:D):Kt:=fun ex σ h=>∃ σ' h',Wk rt σ h σ' h'∧QRet P fn d ex σ' h'
theorem JjZ{t:Tab}{pure:Nat→Nat}(ht:TabOk t)(hm:t.P.follows .mixedOrders=true)(hpure:∀ n,pure n=0→(t.Φ n).isSome)(hnp:∀ n,pure n=1→∀ g,t.G n g→∃ val bs ts,g.out=.ret val bs ts){f:Nat}{fn:Func}{c:Code}(hf:t.P.funcs[f]? = some fn)(hb:fn.body=some c)
  (hcode:(KG pure t.lk fn.ntmps c && fn.results.toList.all (VW fn.ntmps) && fn.ntmps.ble DS)=true) (pf:PF)
  (h:∀ args,pf.pre args→args.length≤fn.ntmps∧t.rt=0∧∃ σ h,Wk t.rt (sig0 (args.map fun d=>.c (.d d))) hp0 σ h∧(h.Good→aC t c σ h (JaZ t.P t.rt fn (pf.val args)))):J7 t.P f pf:=by
 simp only[Bool.and_eq_true]at hcode
 intro w S args vs hG hargs hS hp
 obtain⟨hn,hrt,σ1,h1,hwk,hC⟩:=h args hp
 have hlen:=hargs.length
 refine calls_of_wp hf hb ?_
 let Γ:Ctx:=⟨t.P,w,w.heap.size,S,fun _=>False,fn.ntmps,[],[]⟩
 let e:Env:=⟨w,S,fun _=>none,fun _=>none⟩
 have hw:WInv Γ hp0 e:=by
  constructor
  ·exact⟨hG,fun q hq=>⟨let ⟨_,_,h1,_⟩:=hG q hq; (Array.getElem?_eq_some_iff.1 h1).1,fun h=>h⟩⟩
  ·rfl
  ·rfl
  ·rfl
  ·exact Nat.le_refl _
  ·exact Nat.le_refl _
  ·intro b _ _; rfl
  ·exact hS
  ·intro b o h _; exact h
  ·exact hS
  ·exact Keep.refl _ _
  ·intro n row h; cases h
  ·intro n m b h; exact absurd rfl h
  ·intro k ty h; cases h
  ·intro k m v u b h; exact absurd rfl h
  ·intro n _; exact⟨rfl,rfl,rfl,rfl⟩
  ·exact Nat.one_pos
  ·exact⟨Nat.one_pos,fun i x hx=>by simp[Γ]at hx⟩
 have hs:Jm Γ.nt Γ.ds (sig0 (args.map fun d=>.c (.d d))) { tmps:=(⟨vs⟩:Array Value)++Array.replicate (fn.ntmps-(⟨vs⟩:Array Value).size) undef,defers:=[] } e:=by
  refine⟨by simp[hlen,Γ]; omega,⟨⟨[],rfl,by rw[JfQ (by simp; have:=Nat.le_of_ble_eq_true hcode.2; omega)]; trivial⟩,Nat.le_of_ble_eq_true hcode.2⟩,fun i hi=>?_⟩
  rcases Nat.lt_or_ge i args.length with hlt | hge
  ·obtain⟨v,h1,h2⟩:=hargs.get i args[i] (List.getElem?_eq_getElem hlt)
   have e1:sig0 (args.map fun d=>AV.c (.d d)) i=.c (.d args[i]):=by simp[sig0,hlt]
   have e2:((⟨vs⟩:Array Value)++Array.replicate (fn.ntmps-(⟨vs⟩:Array Value).size) undef).getD i undef=v:=by
    have hiv:i<vs.length:=by omega
    simp only[Array.getD_eq_getD_getElem?]
    rw[Array.getElem?_append_left (by simpa using hiv)]
    simp[h1]
   rw[e1,e2]
   exact h2
  ·have e1:sig0 (args.map fun d=>AV.c (.d d)) i=KP:=by simp[sig0,hge]
   have e2:((⟨vs⟩:Array Value)++Array.replicate (fn.ntmps-(⟨vs⟩:Array Value).size) undef).getD i undef=undef:=by
    simp only[Array.getD_eq_getD_getElem?]
    rw[Array.getElem?_append_right (by simp; omega),Array.getElem?_replicate]
    split <;> rfl
   rw[e1,e2]
   exact RA.undef e
 obtain⟨e1,he1,hs1,hw1⟩:=hwk Γ _ e hrt.symm hs hw
 have he1':e1.w=w:=he1
 suffices hsuf:∀ w1,w1=e1.w→c.wp t.P (bodyPost t.P fn (fun en w'=>∃ v,en=Ending.returned v∧Grows w w'∧R1 w' S (pf.val args) v)) { tmps:=(⟨vs⟩:Array Value)++Array.replicate (fn.ntmps-(⟨vs⟩:Array Value).size) undef,defers:=[] } w1 from hsuf w he1'.symm
 rintro _ rfl
 refine XQ (Γ:=Γ) (t:=t) (pure:=pure) ht rfl hrt.symm hm hpure hnp c _ _ hcode.1.1 (fun ex σ h a e2 hk hs2 hw2=>?_) _ _ _ e1 (hC hw1.good) hs1 hw1
 obtain⟨σ,h,hwk,hk⟩:=hk
 obtain⟨e',he',hs',hw'⟩:=hwk Γ a e2 hrt.symm hs2 hw2
 rw[← he']
 have fin:aRet t.P fn.results.toList σ h (pf.val args)∧dfL (σ DS)=[]→a.defers=[]∧∃ v,(results fn a.tmps).run t.P e'.w=.ok v e'.w∧∃ v',Ending.returned v=.returned v'∧Grows w e'.w∧R1 e'.w S (pf.val args) v':=fun hr=>by
  obtain⟨v,h1,h2⟩:=Jdp (Γ:=Γ) hs' hw' hcode.1.2 hr.1
  refine⟨hs'.2.1.1.nil hr.2,v,h1,v,rfl,⟨hw'.os,hw'.tape,hw'.output,hw'.grown,fun k hk=>hw'.old k hk (fun h=>h.elim)⟩,RD.mono (fun b o x hc hS'=>⟨hc,fun h=>hS' (hw'.s0 b o h (fun h=>h.elim))⟩) h2⟩
 cases ex with
 | normal=>exact fin hk
 | ret=>exact fin hk
 | exit id=>exact hk.elim
 | goto l=>exact hk.elim
 | panic ch=>exact hk.elim
 | outgrown=>exact hk.elim
end Go.Proofs.YtfkhlbhjhdpkoaaDoor
namespace Go.Proofs.YtfkhlbhjhdpkoaaDoor
open Go.RowKit
abbrev FR(l:Nat):Fence:=Fence.wide.inRound l
theorem Jnl{l:Nat}{o:Oper}(h:Xe o.op=false)(ρ:Operand→Value):o.semAt (FR l).round ρ=execOp ρ o :=
 Oper.semAt_some l ρ o fun c hc=>by rw[hc]at h; cases h
theorem Jmy{l n:Nat}{P:Program}{f:FuncId}{args:Array Value}{w:World}{R:Ending→World→Prop}(h:Calls P f args w R):CallsIn (FR l) n P f args w R:=CallsIn.inRound l (callsIn_wide.2 h)
theorem Jm2{l n:Nat}{P:Program}{r:String}{args:Array Value}{w:World}{R:Value→World→Prop}(h:Rows P r args w R):RowsIn (FR l) n P r args w R :=
 fun c cs _=>let ⟨v,w',q,s⟩:=h c cs; ⟨v,w',q,stepsIn_wide.2 s⟩
theorem Jkl{l n:Nat}{P:Program}{o:Oper}{a:Act}{w:World}{K:Act→World→Prop}{Q:Exit→Act→World→Prop}(hd:Xe o.op=false)(h:o.wp P a w K Q):o.wpIn (FR l) n P a w K Q:=by
 refine⟨fun _ _=>trivial,?_⟩
 rw[Jnl hd]
 unfold Oper.wp at h
 revert h
 generalize (execOp a.eval o).run P w=r
 intro h
 cases r with
 | ok x w'=>cases x <;> first | exact h | exact h.elim | exact⟨nofun,Jmy h⟩ | exact⟨nofun,Jm2 h⟩
 | halt x w'=>cases x <;> first | exact h | exact h.elim
theorem Jfl{Γ:Ctx}{t:Tab}{l n:Nat}(ht:TabOk t)(hP:t.P=Γ.P){ops:Array Oper}{K:(Nat→AV)→Hp→Prop}{Kp:Value→Hp→Prop}{Q:Exit→Act→World→Prop}{σ0:Nat→AV}(hall:(ops.toList.all (opIn Γ.nt ops))=true)(hnd:∀ o∈ops.toList,Xe o.op=false)
  (hQ:∀ σ h a e,K σ h→Jm Γ.nt Γ.ds σ a e→WInv Γ h e→Q .normal a e.w)
  (hQp:∀ v h a e,Kp v h→Jm Γ.nt Γ.ds (KF ops σ0) a e→WInv Γ h e→Q (.panic [{ v:=v,recovered:=false }]) a e.w):∀ (lo:List Oper),(∀ o∈lo,o∈ops.toList)→∀ (σ:Nat→AV) (h:Hp) (a:Act) (e:Env),
   KF ops σ=KF ops σ0→aOps t ops K Kp lo σ h→Jm Γ.nt Γ.ds σ a e→WInv Γ h e→wpListIn (FR l) n Γ.P ops Q lo a e.w
 | [],_,σ,h,a,e,_,hh,hs,hw=>hQ σ h a e hh hs hw
 | o::lo,hm,σ,h,a,e,hf,hh,hs,hw=>by
  have ho:=hm o (by simp)
  have hin:=List.all_eq_true.1 hall o ho
  have ih:=Jfl (l:=l) (n:=n) ht hP hall hnd hQ hQp lo (fun o h=>hm o (by simp[h]))
  unfold wpListIn
  rcases JaV hin hs hh with⟨hwant,hrun⟩|⟨hwant,hK⟩
  ·rw[if_pos hwant]
   refine Jkl (hnd o ho) ?_
   have hop:=Jch hin hs
   unfold aRun at hrun
   split at hrun
   ·split at hrun
    ·exact Jci hop hs (Vo hin) hrun (fun hde=>absurd hde (by rw[hnd o ho]; decide)) (fun v hk=>hQp v h a e hk (by rw[← hf]; exact X4 hall hs) hw)
    obtain⟨hpre,hK⟩:=hrun
    have hvr:VR Γ o σ h (aop t.P t.Φ t.Ψ o.op σ h).val (aop t.P t.Φ t.Ψ o.op σ h).h:=by
     have:=Jfj (Γ:=Γ) (Φ:=t.Φ) (Ψ:=t.Ψ) (σ:=σ) (h:=h) (by rw[← hP]; exact ht.pf) (by rw[← hP]; exact ht.mf) o (by rw[← hP]; exact hpre)
     rw[← hP]at this
     exact this
    refine hvr a e hop hw _ _ fun v e' hw' hle hv=>?_
    exact ih _ _ _ _ (by rw[Vh ho]; exact hf) hK ((hs.mono hle).put o.dst (Vo hin) hv) hw'
   ·rename_i x hx
    exact JbI ht hP hx hrun hop hw (fun av h' v e' hk hw' hle hv=>ih _ _ _ _ (by rw[Vh ho]; exact hf) hk ((hs.mono hle).put o.dst (Vo hin) hv) hw')
     (fun v h' e' hk hw' hle=>hQp v h' a e' hk (by rw[← hf]; exact X4 hall (hs.mono hle)) hw')
  ·rw[if_neg (by rw[hwant]; simp)]
   exact⟨fun _ _=>trivial,ih _ _ _ _ (by rw[Vh ho]; exact hf) hK (hs.put o.dst (Vo hin) (RA.undef e)) hw⟩
section
variable {t:Tab} {ops:Array Oper}
theorem JcS{Γ:Ctx}{l n:Nat}(ht:TabOk t)(hP:t.P=Γ.P){K:(Nat→AV)→Hp→Prop}{Kp:Value→Hp→Prop}{Q:Exit→Act→World→Prop}{σ0:Nat→AV}(hall:(ops.toList.all (opIn Γ.nt ops))=true)(hnd:∀ o∈ops.toList,Xe o.op=false)
  (hQ:∀ σ h a e,K σ h→Jm Γ.nt Γ.ds σ a e→WInv Γ h e→Q .normal a e.w)
  (hQp:∀ v h a e,Kp v h→Jm Γ.nt Γ.ds (KF ops σ0) a e→WInv Γ h e→Q (.panic [{ v:=v,recovered:=false }]) a e.w):∀ (fuel:Nat) (listed:Array Bool) (σ:Nat→AV) (h:Hp) (a:Act) (e:Env),
   KF ops σ=KF ops σ0→aAny t ops K Kp fuel listed σ h→Jm Γ.nt Γ.ds σ a e→WInv Γ h e→wpAnyIn (FR l) n Γ.P .any ops Q fuel listed a e.w
 | 0,_,σ,h,a,e,_,hh,hs,hw=>⟨hh.1,hQ σ h a e hh.2 hs hw⟩
 | fuel+1,listed,σ,h,a,e,hfg,hh,hs,hw=>by
  refine⟨fun h0=>hQ σ h a e (hh.1 h0) hs hw,fun i hi=>?_⟩
  have ih:=JcS (l:=l) (n:=n) ht hP hall hnd hQ hQp fuel (listed.setIfInBounds i true)
  have h1:=hh.2 i hi
  obtain⟨_,o,ho,_⟩:=mem_ready.1 hi
  have hmem:o∈ops.toList:=by simpa using Array.mem_of_getElem? ho
  simp only[JbC,ho]at h1
  simp only[wpOpIn,ho]
  have hin:=List.all_eq_true.1 hall o hmem
  rcases JaV hin hs h1 with⟨hwant,hrun⟩|⟨hwant,hK⟩
  ·rw[if_pos hwant]
   refine Jkl (hnd o hmem) ?_
   have hop:=Jch hin hs
   unfold aRun at hrun
   split at hrun
   ·by_cases hdp:isDP o.op=true
    ·rw[if_pos hdp]at hrun
     exact Jci hop hs (Vo hin) hrun (fun hde=>absurd hde (by rw[hnd o hmem]; decide)) (fun v hk=>hQp v h a e hk (by rw[← hfg]; exact X4 hall hs) hw)
    rw[if_neg hdp]at hrun
    obtain⟨hpre,hK⟩:=hrun
    have hvr:VR Γ o σ h (aop t.P t.Φ t.Ψ o.op σ h).val (aop t.P t.Φ t.Ψ o.op σ h).h:=by
     have:=Jfj (Γ:=Γ) (Φ:=t.Φ) (Ψ:=t.Ψ) (σ:=σ) (h:=h) (by rw[← hP]; exact ht.pf) (by rw[← hP]; exact ht.mf) o (by rw[← hP]; exact hpre)
     rw[← hP]at this
     exact this
    exact hvr a e hop hw _ _ fun v e' hw' hle hv=>ih _ _ _ _ (by rw[Vh hmem]; exact hfg) hK ((hs.mono hle).put o.dst (Vo hin) hv) hw'
   ·rename_i x hx
    exact JbI ht hP hx hrun hop hw (fun av h' v e' hk hw' hle hv=>ih _ _ _ _ (by rw[Vh hmem]; exact hfg) hk ((hs.mono hle).put o.dst (Vo hin) hv) hw')
     (fun v h' e' hk hw' hle=>hQp v h' a e' hk (by rw[← hfg]; exact X4 hall (hs.mono hle)) hw')
  ·rw[if_neg (by rw[hwant]; simp)]
   exact⟨fun _ _=>trivial,ih _ _ _ _ (by rw[Vh hmem]; exact hfg) hK (hs.put o.dst (Vo hin) (RA.undef e)) hw⟩
theorem Jho{Γ:Ctx}{pure:Nat→Nat}{l n:Nat}(ht:TabOk t)(hP:t.P=Γ.P)(hm:Γ.P.follows .mixedOrders=true)(hpure:∀ n,pure n=0→(t.Φ n).isSome)(hnp:∀ n,pure n=1→∀ g,t.G n g→∃ val bs ts,g.out=.ret val bs ts){K:(Nat→AV)→Hp→Prop}{Kp:Value→Hp→Prop}{Q:Exit→Act→World→Prop}{id:Nat}{draw:Bool}
  (hall:(ops.toList.all (opIn Γ.nt ops))=true) (hd:draw=true→(t.lk.contains id=true∨JfD pure ops=true)) (hnd:(ops.toList.all fun o=>!Xe o.op)=true) {σ:Nat→AV} {h:Hp} {a:Act} {e:Env}
  (hQ:∀ σ h a e,K σ h→Jm Γ.nt Γ.ds σ a e→WInv Γ h e→Q .normal a e.w)
  (hQp:∀ v h a e,Kp v h→Jm Γ.nt Γ.ds (KF ops σ) a e→WInv Γ h e→Q (.panic [{ v:=v,recovered:=false }]) a e.w) (hh:aReg t id ops draw K Kp σ h) (hs:Jm Γ.nt Γ.ds σ a e) (hw:WInv Γ h e) :
  (Code.region id ops draw).wpIn (FR l) n Γ.P Q a e.w:=by
 have hnd:∀ o∈ops.toList,Xe o.op=false:=fun o ho=>by simpa using List.all_eq_true.1 hnd o ho
 cases draw with
 | false=>exact wpIn_region_list (Jfl ht hP hall hnd hQ hQp ops.toList (fun _ h=>h) σ h a e rfl (by simpa [aReg] using hh) hs hw)
 | true =>
  have hlex:=hd rfl
  obtain⟨w1,l1⟩:=hw.drewn
  refine wpIn_region_any hm ?_
  by_cases hlk:t.lk.contains id=true
  ·have h2:=JcS (l:=l) (n:=n) ht hP hall hnd hQ hQp ops.size _ σ h a _ rfl (by simp only[aReg,hlk,Bool.and_self,if_true]at hh; exact hh hw.fr) (hs.mono l1) w1
   simpa using h2
  have hlex:=hlex.resolve_left hlk
  simp only[aReg,hlk,Bool.and_false,if_false,Bool.false_eq_true]at hh
  have h0:∀ m,(Array.replicate ops.size false).getD m false=false:=fun m=>by
   simp only[Array.getD_eq_getD_getElem?,Array.getElem?_replicate]
   split <;> rfl
  have h1:=JeL (t:=t) (ops:=ops) (K:=K) (Kp:=Kp) hpure hnp ops.toList 0 (Array.replicate ops.size false) σ h (by simp[unl]) hw.fr (fun m o _ hm=>by rw[h0]at hm; cases hm) (fun m hm=>by rw[h0]at hm; cases hm) (by simp) (by simpa [JfD] using hlex) hh
  have h2:=JcS (l:=l) (n:=n) ht hP hall hnd hQ hQp ops.toList.length _ σ h a _ rfl h1 (hs.mono l1) w1
  simpa using h2
end
def Xd:Code→Bool
 | .region _ ops _=>ops.toList.all fun o=>!Xe o.op
 | .seq a b=>Xd a && Xd b
 | .cond _ a b=>Xd a && Xd b
 | .block _ b=>Xd b
 | .loop b=>Xd b
 | _=>true
theorem ZI{Γ:Ctx}{t:Tab}{pure:Nat→Nat}{l n:Nat}(ht:TabOk t)(hP:t.P=Γ.P)(hrt:Γ.root.length=t.rt)(hm:Γ.P.follows .mixedOrders=true)(hpure:∀ n,pure n=0→(t.Φ n).isSome)(hnp:∀ n,pure n=1→∀ g,t.G n g→∃ val bs ts,g.out=.ret val bs ts)(hlk:t.lk.contains 999999=true):
  ∀ (c:Code) (Q:Kt) (Q':Exit→Act→World→Prop),KG pure t.lk Γ.nt c=true→Xd c=true→(∀ ex σ h a e,Q ex σ h→Jm Γ.nt Γ.ds σ a e→WInv Γ h e→Q' ex a e.w) →
   ∀ (σ:Nat→AV) (h:Hp) (a:Act) (e:Env),aC t c σ h Q→Jm Γ.nt Γ.ds σ a e→WInv Γ h e→c.wpIn (FR l) n Γ.P Q' a e.w
 | .skip,Q,Q',hc,hd,hQ,σ,h,a,e,hh,hs,hw=>wpIn_skip (hQ _ _ _ _ _ hh hs hw)
 | .region id ops draw,Q,Q',hc,hd,hQ,σ,h,a,e,hh,hs,hw=>by
  simp only[KG,Bool.and_eq_true,Bool.or_eq_true]at hc
  obtain⟨hc,hnt⟩:=hc
  obtain⟨σ1,h1,hwk,hh⟩:=hh
  obtain⟨e1,he,hs,hw⟩:=hwk Γ a e hrt hs hw
  rw[← he]
  rcases hh with hh | ⟨σ2,h2,hr,hq⟩
  case inr=>exact absurd (hr.1.symm.trans hlk) (by decide)
  exact Jho ht hP hm hpure hnp hc.1.1 (fun hd=>by rcases hc.2 with h | h; rw[hd]at h; cases h; exact h.1) hd (fun σ h a e hk=>hQ _ σ h a e hk) (fun v h a e hk=>hQ _ _ h a e hk) hh hs hw
 | .seq x y,Q,Q',hc,hd,hQ,σ,h,a,e,hh,hs,hw=>by
  simp only[KG,Bool.and_eq_true]at hc
  simp only[Xd,Bool.and_eq_true]at hd
  refine wpIn_seq (ZI ht hP hrt hm hpure hnp hlk x _ _ hc.1 hd.1 (fun ex σ h a e hk hs hw=>?_) σ h a e hh hs hw)
  cases ex with
  | normal =>
   obtain⟨σ2,h2,hwk,hk⟩:=hk
   obtain⟨e2,he,hs2,hw2⟩:=hwk Γ a e hrt hs hw
   rw[← he]
   exact ZI ht hP hrt hm hpure hnp hlk y Q Q' hc.2 hd.2 hQ σ2 h2 a e2 (hk.get hw2.good) hs2 hw2
  | exit id=>exact hQ _ _ _ _ _ hk hs hw
  | goto l=>exact hQ _ _ _ _ _ hk hs hw
  | ret=>exact hQ _ _ _ _ _ hk hs hw
  | panic ch=>exact hQ _ _ _ _ _ hk hs hw
  | outgrown=>exact hQ _ _ _ _ _ hk hs hw
 | .cond c x y,Q,Q',hc,hd,hQ,σ,h,a,e,hh,hs,hw=>by
  simp only[KG,Bool.and_eq_true]at hc
  simp only[Xd,Bool.and_eq_true]at hd
  simp only[aC]at hh
  split at hh
  ·rename_i p hp
   have hr:=Jem hs c (fun t ht=>by subst ht; simpa using hc.1.1)
   rw[hp]at hr
   have hr:=R1.vInv hr
   exact wpIn_cond_split hr (fun h1=>ZI ht hP hrt hm hpure hnp hlk x Q Q' hc.1.2 hd.1 hQ σ h a e (hh.1 h1) hs hw) (fun h1=>ZI ht hP hrt hm hpure hnp hlk y Q Q' hc.2 hd.2 hQ σ h a e (hh.2 h1) hs hw)
  ·exact hh.elim
 | .block id b,Q,Q',hc,hd,hQ,σ,h,a,e,hh,hs,hw=>by
  refine wpIn_block (ZI ht hP hrt hm hpure hnp hlk b _ _ hc hd (fun ex σ h a e hk hs hw=>?_) σ h a e hh hs hw)
  cases ex with
  | normal=>exact hQ _ _ _ _ _ hk hs hw
  | exit j =>
   simp only[Exit.inBlock]
   simp only at hk
   split at hk
   ·rename_i hj; rw[if_pos hj]; exact hQ _ _ _ _ _ hk hs hw
   ·rename_i hj; rw[if_neg hj]; exact hQ _ _ _ _ _ hk hs hw
  | goto l=>exact hQ _ _ _ _ _ hk hs hw
  | ret=>exact hQ _ _ _ _ _ hk hs hw
  | panic ch=>exact hQ _ _ _ _ _ hk hs hw
  | outgrown=>exact hQ _ _ _ _ _ hk hs hw
 | .loop b,Q,Q',hc,hd,hQ,σ,h,a,e,hh,hs,hw=>by
  obtain⟨I,⟨n₀,σ1,h1,hwk,h0⟩,hround⟩:=hh
  obtain⟨e1,he,hs1,hw1⟩:=hwk Γ a e hrt hs hw
  refine wpIn_loop_ghost (fun n a' w'=>∃ σ' h' e',e'.w=w'∧I n σ' h'∧Jm Γ.nt Γ.ds σ' a' e'∧WInv Γ h' e') n₀ ⟨σ1,h1,e1,he,h0,hs1,hw1⟩ ?_
  rintro n a' w' ⟨σ',h',e',rfl,hI,hs',hw'⟩
  refine ZI ht hP hrt hm hpure hnp hlk b _ _ hc hd (fun ex σ h a e hk hs hw=>?_) σ' h' a' e' (hround n σ' h' hI hw'.good) hs' hw'
  cases ex with
  | normal =>
   obtain⟨m,σ3,h3,hm,hwk,hI'⟩:=hk
   obtain⟨e3,he3,hs3,hw3⟩:=hwk Γ a e hrt hs hw
   exact⟨m,hm,σ3,h3,e3,he3,hI',hs3,hw3⟩
  | exit id=>exact hQ _ _ _ _ _ hk hs hw
  | goto l=>exact hQ _ _ _ _ _ hk hs hw
  | ret=>exact hQ _ _ _ _ _ hk hs hw
  | panic ch=>exact hQ _ _ _ _ _ hk hs hw
  | outgrown=>exact hQ _ _ _ _ _ hk hs hw
 | .exit id,Q,Q',_,_,hQ,σ,h,a,e,hh,hs,hw=>wpIn_exit (hQ _ _ _ _ _ hh hs hw)
 | .ret,Q,Q',_,_,hQ,σ,h,a,e,hh,hs,hw=>wpIn_ret (hQ _ _ _ _ _ hh hs hw)
 | .rangeFunc _ _ _ _,_,_,_,_,_,_,_,_,_,hh,_,_=>hh.elim
 | .scope _,_,_,_,_,_,_,_,_,_,hh,_,_=>hh.elim
 | .label _,_,_,_,_,_,_,_,_,_,hh,_,_=>hh.elim
 | .goto _,_,_,_,_,_,_,_,_,_,hh,_,_=>hh.elim
 | .refuse _,_,_,_,_,_,_,_,_,_,hh,_,_=>hh.elim
def ownB(h:Hp)(e:Env)(b:Nat):Prop:=(∃ n,h.H n≠none∧e.ρ n=some b)∨∃ k v,h.T k≠none∧e.τ k=some v∧v.ownBlock=some b∧¬ KX v
theorem WInv.own{Γ:Ctx}{h:Hp}{e:Env}(hw:WInv Γ h e){b:Nat}(hb:ownB h e b):(Γ.B≤b∨Γ.M b)∧∃ cs ty fz,e.w.heap[b]? = some (.cells cs ty fz):=by
 rcases hb with⟨n,hn,hρ⟩|⟨k,v,hk,hτ,hv,hf⟩
 ·obtain⟨row,hr⟩:=Option.ne_none_iff_exists'.1 hn
  obtain⟨ob,h1,h2,_,h4⟩:=hw.boxAny hρ row hr
  refine⟨h4,?_⟩
  unfold RO at h2
  split at h2
  ·obtain⟨_,cs,fz,_,rfl,_⟩:=h2; exact⟨_,_,_,h1⟩
  ·obtain⟨cs,ty,rfl,_⟩:=h2; exact⟨_,_,_,h1⟩
 ·obtain⟨ty,hty⟩:=Option.ne_none_iff_exists'.1 hk
  obtain⟨_,u,h1,hor⟩:=hw.tok k ty hty
  rw[hτ]at h1; simp at h1; subst h1
  obtain⟨sz,n,xs,_,h2,_⟩:=hor.resolve_left hf
  refine⟨h2.2 b hv,?_⟩
  rcases h2.1.2 with⟨rfl,_⟩|⟨g,cap,cur,rfl,_,r2,_⟩
  ·cases hv
  ·simp[Value.ownBlock]at hv; subst hv; exact⟨_,_,_,r2⟩
def Ctx.rb(Γ:Ctx)(h:Hp)(e:Env)(ds:List Deferred)(rt:List (Option Nat×Option Value)):Ctx:={ Γ with w0:=e.w,B:=e.w.heap.size,S0:=e.S,M:=ownB h e,ds:=ds,root:=rt }
theorem WInv.rb{Γ:Ctx}{h:Hp}{e:Env}(hw:WInv Γ h e)(ds:List Deferred){rt:List (Option Nat×Option Value)}(hr:rt.length<h.nx∧∀ i x,rt[i]? = some x→e.ρ (i+1)=x.1∧e.τ (i+1)=x.2):WInv (Γ.rb h e ds rt) h e:=by
 constructor
 ·refine⟨hw.gw,fun q hq=>?_⟩
  obtain⟨g1,g2⟩:=hw.g0.2 q hq
  exact⟨Nat.lt_of_lt_of_le g1 hw.hB,fun hb=>by rcases (hw.own hb).1 with h | h; omega; exact g2 h⟩
 ·rfl
 ·rfl
 ·rfl
 ·exact Nat.le_refl _
 ·exact Nat.le_refl _
 ·intro b _ _; rfl
 ·exact hw.sdom
 ·intro b o h _; exact h
 ·exact hw.sdom
 ·exact Keep.refl _ _
 ·intro n row hn
  rcases hw.box n row hn with hz | ⟨b,ob,h1,h2,h3,h4,_⟩
  ·exact .inl hz
  ·exact .inr ⟨b,ob,h1,h2,h3,h4,.inr (.inl ⟨n,by rw[hn]; simp,h1⟩)⟩
 ·exact hw.inj
 ·intro k ty hk
  obtain⟨h0,v,h1,hor⟩:=hw.tok k ty hk
  by_cases hf:KX v
  ·exact⟨h0,v,h1,.inl hf⟩
  ·obtain⟨sz,n,xs,hsz,h2,h3⟩:=hor.resolve_left hf
   exact⟨h0,v,h1,.inr ⟨sz,n,xs,hsz,⟨h2.1,fun b hb=>.inr (.inr ⟨k,v,by rw[hk]; simp,h1,hb,hf⟩)⟩,h3⟩⟩
 ·exact hw.tokinj
 ·exact hw.fresh
 ·exact hw.nx0
 ·exact hr
theorem WInv.unrb{Γ:Ctx}{h h2:Hp}{e e2:Env}{ds:List Deferred}{rt:List (Option Nat×Option Value)}(hroot:Γ.root=[])(hw:WInv Γ h e)(hk:WInv (Γ.rb h e ds rt) h2 e2):WInv Γ h2 e2:=by
 have hM:∀ b,b<Γ.B→¬ Γ.M b→¬ ownB h e b:=fun b hb hm ho=>by rcases (hw.own ho).1 with h | h; omega; exact hm h
 have hBM:∀ b,(e.w.heap.size≤b∨ownB h e b)→Γ.B≤b∨Γ.M b:=fun b hb=>by
  rcases hb with hb | hb
  ·exact .inl (Nat.le_trans hw.hB hb)
  ·exact(hw.own hb).1
 constructor
 ·exact hw.g0
 ·exact hk.os.trans hw.os
 ·exact hk.tape.trans hw.tape
 ·exact hk.output.trans hw.output
 ·exact Nat.le_trans hw.grown hk.grown
 ·exact Nat.le_trans hw.hB hk.grown
 ·intro b hb hm
  exact(hk.old b (Nat.lt_of_lt_of_le hb hw.hB) (hM b hb hm)).trans (hw.old b hb hm)
 ·exact hk.sdom
 ·intro b o h0 hm
  exact hk.s0 b o (hw.s0 b o h0 hm) (hM b (hw.s0B b o h0) hm)
 ·exact hw.s0B
 ·exact hw.keep.trans hk.keep
 ·intro n row hn
  rcases hk.box n row hn with hz | ⟨b,ob,h1,h2,h3,h4,h5⟩
  ·exact .inl hz
  ·exact .inr ⟨b,ob,h1,h2,h3,h4,hBM b h5⟩
 ·exact hk.inj
 ·intro k ty hkt
  obtain⟨h0,v,h1,hor⟩:=hk.tok k ty hkt
  refine⟨h0,v,h1,hor.imp id ?_⟩
  rintro ⟨sz,n,xs,hsz,h2,h3⟩
  exact⟨sz,n,xs,hsz,⟨h2.1,fun b hb=>hBM b (h2.2 b hb)⟩,h3⟩
 ·exact hk.tokinj
 ·exact hk.fresh
 ·exact hk.nx0
 ·exact⟨by rw[hroot]; exact hk.nx0,fun i x hx=>by rw[hroot]at hx; cases hx⟩
theorem WInv.stays{Γ:Ctx}{h h2:Hp}{e e2:Env}{ds:List Deferred}{rt:List (Option Nat×Option Value)}(hw:WInv Γ h e)(hk:WInv (Γ.rb h e ds rt) h2 e2){l:Nat}{o:Obj}(hl:e.w.heap[l]? = some o)(ho:∀ cs ty fz,o≠.cells cs ty fz):e2.w.heap[l]? = some o :=
 (hk.old l (Array.getElem?_eq_some_iff.1 hl).1 (fun hb=>by obtain⟨_,cs,ty,fz,h1⟩:=hw.own hb; rw[hl]at h1; cases h1; exact ho _ _ _ rfl)).trans hl
theorem WInv.foreign{Γ:Ctx}{h:Hp}{e:Env}(hw:WInv Γ h e){l:Nat}{o o':Obj}(hl:e.w.heap[l]? = some o)(ho:o.isCells=false)(ho':o'.isCells=false)(hB:Γ.B≤l):
  WInv Γ h { e with w:=e.w.putObj l o' }∧e.le { e with w:=e.w.putObj l o' }:=by
 have hne:∀ b cs ty fz,e.w.heap[b]? = some (.cells cs ty fz)→b≠l:=fun b cs ty fz hb hbl=>by subst hbl; rw[hl]at hb; cases hb; cases ho
 have hoth:∀ b,b≠l→(e.w.putObj l o').heap[b]? = e.w.heap[b]? := fun b hb=>World.putObj_heap_other hb
 have hle:e.le { e with w:=e.w.putObj l o' }:=⟨fun b i x hc hs=>by
  refine⟨?_,hs⟩
  have hbl:b≠l:=fun hbl=>by
   subst hbl
   unfold World.cell? at hc
   rw[hl]at hc
   cases o with
   | cells=>cases ho
   | _=>cases hc
  exact(World.cell?_of_block (hoth b hbl)).trans hc,fun _ _ h=>h,fun _ _ h=>h⟩
 refine⟨?_,hle⟩
 constructor
 ·exact hw.g0
 ·exact hw.os
 ·exact hw.tape
 ·exact hw.output
 ·show Γ.w0.heap.size≤(e.w.putObj l o').heap.size
  rw[World.putObj_size]; exact hw.grown
 ·show Γ.B≤(e.w.putObj l o').heap.size
  rw[World.putObj_size]; exact hw.hB
 ·intro b hb hm
  exact(hoth b (by omega)).trans (hw.old b hb hm)
 ·intro b o hb
  show b<(e.w.putObj l o').heap.size
  rw[World.putObj_size]; exact hw.sdom b o hb
 ·exact hw.s0
 ·exact hw.s0B
 ·exact hw.keep.trans hle.keep
 ·intro n row hn
  rcases hw.box n row hn with hz | ⟨b,ob,h1,h2,h3,h4,h5⟩
  ·exact .inl hz
  obtain⟨_,cs,ty,fz,hc⟩:=hw.own (b:=b) (.inl ⟨n,by rw[hn]; simp,h1⟩)
  exact .inr ⟨b,ob,h1,(hoth b (hne b _ _ _ hc)).trans h2,RO.mono hle h3,h4,h5⟩
 ·exact hw.inj
 ·intro k ty hk
  obtain⟨h0,v,h1,hor⟩:=hw.tok k ty hk
  by_cases hf:KX v
  ·exact⟨h0,v,h1,.inl hf⟩
  obtain⟨sz,n,xs,hsz,h2,h3,h4⟩:=hor.resolve_left hf
  have hsame:∀ b,v.ownBlock=some b→(e.w.putObj l o').heap[b]? = e.w.heap[b]? := fun b hb=>by
   obtain⟨_,cs,ty',fz,hc⟩:=hw.own (b:=b) (.inr ⟨k,v,by rw[hk]; simp,h1,hb,hf⟩)
   exact hoth b (hne b _ _ _ hc)
  refine⟨h0,v,h1,.inr ⟨sz,n,xs,hsz,⟨VO h2.1 hsame,h2.2⟩,fun b o hb ho hc=>?_,h4⟩⟩
  exact h3 b o hb ho (by rw[← World.cell?_of_block (hsame b hb)]; exact hc)
 ·exact hw.tokinj
 ·exact hw.fresh
 ·exact hw.nx0
 ·exact hw.rt
end Go.Proofs.YtfkhlbhjhdpkoaaDoor
namespace Go.Proofs.YtfkhlbhjhdpkoaaDoor
open Go.RowKit
def splV(c:UInt8):List UInt8→List (List UInt8)
 | []=>[[]]
 | x::r=>if x=c then []::splV c r else match splV c r with | p::ps=>(x::p)::ps | []=>[[x]]
theorem Ja7(c:UInt8):∀ l,∃ p ps,splV c l=p::ps
 | []=>⟨_,_,rfl⟩
 | x::r=>by
  obtain⟨p,ps,h⟩:=Ja7 c r
  unfold splV
  split
  ·exact⟨_,_,rfl⟩
  ·rw[h]; exact⟨_,_,rfl⟩
theorem JdR{c:UInt8}:∀ {l:List UInt8},(∀ k:Nat,l[k]?≠some c)→splV c l=[l]
 | [],_=>rfl
 | x::r,h=>by
  have hx:x≠c:=fun e=>h 0 (by simp[e])
  have hr:=JdR (l:=r) (fun k=>by simpa using h (k+1))
  unfold splV
  rw[if_neg hx,hr]
theorem JdW{c:UInt8}:∀ {l:List UInt8} {o:Nat},l[o]? = some c→(∀ k:Nat,k<o→l[k]?≠some c)→splV c l=l.take o::splV c (l.drop (o+1))
 | [],o,h,_=>by simp at h
 | x::r,0,h,_=>by
  have:x=c:=by simpa using h
  rw[splV.eq_2,if_pos this]; simp
 | x::r,o+1,h,hk=>by
  have hx:x≠c:=fun e=>hk 0 (by omega) (by simp[e])
  have hr:=JdW (l:=r) (o:=o) (by simpa using h) (fun k hko=>by simpa using hk (k+1) (by omega))
  rw[splV.eq_2,if_neg hx,hr]; simp
end Go.Proofs.YtfkhlbhjhdpkoaaDoor
namespace Go.Proofs.YtfkhlbhjhdpkoaaDoor
open Go.RowKit
structure RdO where
 dst:Option Tmp
 op:Op
 g:Option (Tmp×Bool)
def roOf(ops:Array Oper)(o:Oper):RdO:=⟨o.dst,o.op,match o.guard with | none=>none | some (j,want)=>match JaB ops j with | none=>none | some d=>some (d,want)⟩
def VG(ops:Array Oper)(o:Oper):Bool:=match o.guard with | none=>true | some (j,_)=>(JaB ops j).isSome
def Jaj(p:Bool):AV:=.c (.d (.v (.bool p)))
def aGd(σ:Nat→AV)(g:Option (Tmp×Bool))(run skip:(Nat→AV)→Prop):Prop :=
 match g with
 | none=>run σ
 | some (d,want)=>match σ d with
  | .c (.d (.v (.bool p)))=>(p=want→run (upd σ d (Jaj want)))∧(p=!want→skip (upd σ d (Jaj !want)))
  | .c (.d (.v (.tuple _)))=>skip σ
  | _=>False
def aRO(t:Tab)(K:(Nat→AV)→Hp→Prop):List RdO→(Nat→AV)→Hp→Prop
 | [],σ,h=>K σ h
 | o::l,σ,h=>aGd σ o.g (fun σ=>(aop t.P t.Φ t.Ψ o.op σ h).pre∧aRO t K l (putA σ o.dst (aop t.P t.Φ t.Ψ o.op σ h).val) (aop t.P t.Φ t.Ψ o.op σ h).h) (fun σ=>aRO t K l (putA σ o.dst KP) h)
theorem JbR{σ:Nat→AV}{d:Nat}{p q:Bool}(h:σ d=.c (.d (.v (.bool p))))(hp:p=q):upd σ d (Jaj q)=σ:=by
 funext i
 by_cases hi:i=d
 ·subst hi; simp[upd,Jaj,h,hp]
 ·simp[upd,hi]
def aRG(t:Tab)(K:(Nat→AV)→Hp→Prop)(Kp:Value→Hp→Prop):List RdO→(Nat→AV)→Hp→Prop
 | [],σ,h=>K σ h
 | o::l,σ,h=>aGd σ o.g (fun σ=>aRun t o.op o.dst (aRG t K Kp l) Kp σ h) (fun σ=>aRG t K Kp l (putA σ o.dst KP) h)
theorem JcO{t:Tab}{ops:Array Oper}{K:(Nat→AV)→Hp→Prop}{Kp:Value→Hp→Prop}:∀ (l:List Oper) (σ:Nat→AV) (h:Hp),(l.all (VG ops))=true→aRG t K Kp (l.map (roOf ops)) σ h→aOps t ops K Kp l σ h
 | [],_,_,_,hh=>hh
 | o::l,σ,h,hg,hh=>by
  simp only[List.all_cons,Bool.and_eq_true]at hg
  simp only[List.map_cons,aRG]at hh
  simp only[aOps,aOp]
  have ih:=fun σ h=>JcO (K:=K) (Kp:=Kp) (t:=t) (ops:=ops) l σ h hg.2
  have h1:=hg.1
  unfold VG at h1
  unfold aGd roOf at hh
  unfold JO
  split
  ·rename_i hgd; rw[hgd]at hh; exact Vn (fun _ _=>ih _ _) (fun _ _ x=>x) hh
  ·rename_i j want hgd
   rw[hgd]at hh h1
   simp only at hh h1
   split
   ·rename_i hs; rw[hs]at h1; cases h1
   ·rename_i d hs
    rw[hs]at hh
    simp only at hh
    split
    ·rename_i p hp
     rw[hp]at hh
     refine⟨fun x=>?_,fun x=>?_⟩
     ·have:=hh.1 x
      rw[JbR hp x]at this
      exact Vn (fun _ _=>ih _ _) (fun _ _ x=>x) this
     ·have:=hh.2 x
      rw[JbR hp x]at this
      exact ih _ _ this
    ·rename_i hp; rw[hp]at hh; exact ih _ _ hh
    ·rename_i h2 h3
     split at hh
     ·rename_i p hp; exact(h2 _ hp).elim
     ·rename_i vs hp; exact(h3 _ hp).elim
     ·exact hh.elim
theorem JdT{t:Tab}{op:Op}{σ:Nat→AV}{h:Hp}(hp:(aop t.P t.Φ t.Ψ op σ h).pre):JT t σ op=none∧¬ isDP op=true:=by
 refine⟨?_,fun hd=>?_⟩
 ·cases hg:JT t σ op with
  | none=>rfl
  | some x =>
   exfalso
   unfold JT at hg
   split at hg
   case h_2=>cases hg
   rename_i c
   obtain⟨callee,args,ts⟩:=c
   simp only at hg
   split at hg
   case h_2=>cases hg
   rename_i f
   simp only[aop,JaT]at hp
   split at hg
   ·rename_i n fs cs hev
    split at hg
    case isFalse=>cases hg
    rename_i hc
    rw[hev]at hp
    simp only[Option.isNone_iff_eq_none]at hc
    simp only[hc.2.2.1,hc.2.2.2]at hp
    exact hp
   ·rename_i n ns hev
    rw[hev]at hp
    exact hp
   ·cases hg
 ·cases op <;> first | (cases hd; done) | exact hp
theorem JcC{t:Tab}{K:(Nat→AV)→Hp→Prop}{Kp:Value→Hp→Prop}{l2:List RdO}:∀ {l1:List RdO} {σ:Nat→AV} {h:Hp},aRO t (aRG t K Kp l2) l1 σ h→aRG t K Kp (l1++l2) σ h
 | [],_,_,hh=>hh
 | o::l1,σ,h,hh=>by
  simp only[aRO,aRG,List.cons_append]at hh ⊢
  unfold aGd at *
  have run:∀ σ,((aop t.P t.Φ t.Ψ o.op σ h).pre∧aRO t (aRG t K Kp l2) l1 (putA σ o.dst (aop t.P t.Φ t.Ψ o.op σ h).val) (aop t.P t.Φ t.Ψ o.op σ h).h)→aRun t o.op o.dst (aRG t K Kp (l1++l2)) Kp σ h:=fun σ x=>by
   obtain⟨q1,q2⟩:=JdT x.1
   unfold aRun
   rw[q1]
   simp only
   rw[if_neg q2]
   exact⟨x.1,JcC x.2⟩
  split at hh
  ·exact run _ hh
  ·split at hh
   ·exact⟨fun x=>run _ (hh.1 x),fun x=>JcC (hh.2 x)⟩
   ·exact JcC hh
   ·exact hh.elim
theorem Jb6{t:Tab}{K K':(Nat→AV)→Hp→Prop}(hk:∀ σ h,K σ h→K' σ h):∀ {l:List RdO} {σ:Nat→AV} {h:Hp},aRO t K l σ h→aRO t K' l σ h
 | [],_,_,hh=>hk _ _ hh
 | o::l,σ,h,hh=>by
  simp only[aRO]at hh ⊢
  unfold aGd at *
  split at hh
  ·exact⟨hh.1,Jb6 hk hh.2⟩
  ·split at hh
   ·exact⟨fun x=>⟨(hh.1 x).1,Jb6 hk (hh.1 x).2⟩,fun x=>Jb6 hk (hh.2 x)⟩
   ·exact Jb6 hk hh
   ·exact hh.elim
theorem Jkx{t:Tab}{K:(Nat→AV)→Hp→Prop}{Kp:Value→Hp→Prop}{l:List RdO}{σ:Nat→AV}{h:Hp}(hh:aRO t K l σ h):aRG t K Kp l σ h:=by
 have:=JcC (l2:=[]) (K:=K) (Kp:=Kp) (l1:=l) (Jb6 (fun _ _ x=>x) hh)
 simpa using this
def Jhg(r:AR)(t:Tab)(K:(Nat→AV)→Hp→Prop)(dst:Option Tmp)(l:List RdO)(σ:Nat→AV):Prop:=r.pre∧aRO t K l (putA σ dst r.val) r.h
def aGdS(v:AV)(d:Tmp)(w:Bool)(t:Tab)(K:(Nat→AV)→Hp→Prop)(dst:Option Tmp)(op:Op)(l:List RdO)(σ:Nat→AV)(h:Hp):Prop :=
 match v with
 | .c (.d (.v (.bool p)))=>(p=w→Jhg (aop t.P t.Φ t.Ψ op (upd σ d (Jaj w)) h) t K dst l (upd σ d (Jaj w)))∧(p=!w→aRO t K l (putA (upd σ d (Jaj !w)) dst KP) h)
 | .c (.d (.v (.tuple _)))=>aRO t K l (putA σ dst KP) h
 | _=>False
theorem Jjx(t:Tab)(K:(Nat→AV)→Hp→Prop)(σ:Nat→AV)(h:Hp):aRO t K [] σ h=K σ h:=rfl
theorem JhO(t:Tab)(K:(Nat→AV)→Hp→Prop)(dst:Option Tmp)(op:Op)(l:List RdO)(σ:Nat→AV)(h:Hp):aRO t K (⟨dst,op,none⟩::l) σ h=Jhg (aop t.P t.Φ t.Ψ op σ h) t K dst l σ:=rfl
theorem JhN(t:Tab)(K:(Nat→AV)→Hp→Prop)(dst:Option Tmp)(op:Op)(d:Tmp)(w:Bool)(l:List RdO)(σ:Nat→AV)(h:Hp):aRO t K (⟨dst,op,some (d,w)⟩::l) σ h=aGdS (σ d) d w t K dst op l σ h:=rfl
theorem JhT(p:Prop)(v:AV)(h:Hp)(t:Tab)(K:(Nat→AV)→Hp→Prop)(dst:Option Tmp)(l:List RdO)(σ:Nat→AV):Jhg ⟨p,v,h⟩ t K dst l σ=(p∧aRO t K l (putA σ dst v) h):=rfl
theorem Jf8(p:Bool)(d:Tmp)(w:Bool)(t:Tab)(K:(Nat→AV)→Hp→Prop)(dst:Option Tmp)(op:Op)(l:List RdO)(σ:Nat→AV)(h:Hp):
  aGdS (.c (.d (.v (.bool p)))) d w t K dst op l σ h=if p=w then Jhg (aop t.P t.Φ t.Ψ op (upd σ d (Jaj w)) h) t K dst l (upd σ d (Jaj w)) else aRO t K l (putA (upd σ d (Jaj !w)) dst KP) h:=by
 cases p <;> cases w <;> simp[aGdS]
theorem JhR(vs:Array Value)(d:Tmp)(w:Bool)(t:Tab)(K:(Nat→AV)→Hp→Prop)(dst:Option Tmp)(op:Op)(l:List RdO)(σ:Nat→AV)(h:Hp):
  aGdS (.c (.d (.v (.tuple vs)))) d w t K dst op l σ h=aRO t K l (putA σ dst KP) h:=rfl
theorem JeT(d:Tmp)(w:Bool)(t:Tab)(K:(Nat→AV)→Hp→Prop)(dst:Option Tmp)(op:Op)(l:List RdO)(σ:Nat→AV)(h:Hp):
  aGdS (.c (.d (.v undef))) d w t K dst op l σ h=aRO t K l (putA σ dst KP) h:=rfl
def Then(t:Tab)(b:Code)(Q:Kt):Kt:=fun ex σ h=>match ex with | .normal=>∃ σ2 h2,Wk t.rt σ h σ2 h2∧Given h2.Good (aC t b σ2 h2 Q) | ex=>Q ex σ h
def Zu(id:Nat)(Q:Kt):Kt:=fun ex σ h=>match ex with | .exit j=>if j=id then Q .normal σ h else Q (.exit j) σ h | ex=>Q ex σ h
def Jfz(rt:Nat)(n:Nat)(I:Nat→(Nat→AV)→Hp→Prop)(Q:Kt):Kt:=fun ex σ h=>match ex with | .normal=>∃ m σ3 h3,m<n∧Wk rt σ h σ3 h3∧I m σ3 h3 | ex=>Q ex σ h
def Cut(rt:Nat)(R:(Nat→AV)→Hp→Prop)(Q:Kt):Kt:=fun ex σ h=>match ex with | .normal=>∃ σ2 h2,Wk rt σ h σ2 h2∧R σ2 h2 | ex=>Q ex σ h
variable {t:Tab} {σ:Nat→AV} {h:Hp} {Q:Kt}
theorem Jak{a b:Code}(hh:aC t a σ h (Then t b Q)):aC t (.seq a b) σ h Q:=hh
theorem Jby(hh:Q .normal σ h):aC t .skip σ h Q:=hh
theorem Jnj(hh:Q .ret σ h):aC t .ret σ h Q:=hh
theorem Jkr{id:Nat}(hh:Q (.exit id) σ h):aC t (.exit id) σ h Q:=hh
theorem Jjf{id:Nat}{b:Code}(hh:aC t b σ h (Zu id Q)):aC t (.block id b) σ h Q:=hh
theorem JfK{c:Operand}{x y:Code}(hc:evA σ c=.c (.d (.v (.bool true))))(hx:aC t x σ h Q):aC t (.cond c x y) σ h Q:=by
 simp only[aC,hc]; exact⟨fun _=>hx,fun h=>by cases h⟩
theorem JfU{c:Operand}{x y:Code}(hc:evA σ c=.c (.d (.v (.bool false))))(hx:aC t y σ h Q):aC t (.cond c x y) σ h Q:=by
 simp[aC,hc]; exact hx
theorem Jdj{id:Nat}{ops:Array Oper}{draw:Bool}(hl:(draw && t.lk.contains id)=false)(hg:(ops.toList.all (VG ops))=true)(hh:∀ K:(Nat→AV)→Hp→Prop,(∀ σ h,Q .normal σ h→K σ h)→aRO t K (ops.toList.map (roOf ops)) σ h):aC t (.region id ops draw) σ h Q :=
 ⟨σ,h,Wk.refl _ _ _,.inl (Jfy hl (JcO _ _ _ hg (Jkx (hh _ fun _ _ x=>x))))⟩
theorem JkQ{id:Nat}{ops:Array Oper}{draw:Bool}(hl:(draw && t.lk.contains id)=false)(hg:(ops.toList.all (VG ops))=true)(hh:aRG t (Q .normal) (fun v h'=>Q (.panic [{ v:=v,recovered:=false }]) (KF ops σ) h') (ops.toList.map (roOf ops)) σ h):aC t (.region id ops draw) σ h Q :=
 ⟨σ,h,Wk.refl _ _ _,.inl (Jfy hl (JcO _ _ _ hg hh))⟩
theorem JF{b:Code}(hh:aC t b σ h Q):Then t b Q .normal σ h:=⟨σ,h,Wk.refl _ _ _,⟨fun _=>hh⟩⟩
theorem JlH{b:Code}(hh:Q .ret σ h):Then t b Q .ret σ h:=hh
theorem JgU{b:Code}{i:Nat}(hh:Q (.exit i) σ h):Then t b Q (.exit i) σ h:=hh
theorem JhA{id:Nat}(hh:Q .normal σ h):Zu id Q .normal σ h:=hh
theorem JkF{id:Nat}(hh:Q .ret σ h):Zu id Q .ret σ h:=hh
theorem Je4{id:Nat}(hh:Q .normal σ h):Zu id Q (.exit id) σ h:=by simp only[Zu,if_true]; exact hh
theorem JiA{id j:Nat}(hne:(j == id)=false)(hh:Q (.exit j) σ h):Zu id Q (.exit j) σ h:=by
 have:j≠id:=by simpa using hne
 simp only[Zu,this,if_false]; exact hh
theorem Jkk{rt:Nat}{n:Nat}{I:Nat→(Nat→AV)→Hp→Prop}(hh:Q .ret σ h):Jfz rt n I Q .ret σ h:=hh
theorem Jfu{rt:Nat}{n i:Nat}{I:Nat→(Nat→AV)→Hp→Prop}(hh:Q (.exit i) σ h):Jfz rt n I Q (.exit i) σ h:=hh
theorem Jmb{rt:Nat}{R:(Nat→AV)→Hp→Prop}(hh:Q .ret σ h):Cut rt R Q .ret σ h:=hh
theorem Jlf{rt:Nat}{R:(Nat→AV)→Hp→Prop}{i:Nat}(hh:Q (.exit i) σ h):Cut rt R Q (.exit i) σ h:=hh
theorem JaA{t:Tab}:∀ (c:Code) (σ:Nat→AV) (h:Hp) (Q Q':Kt),(∀ ex σ h,Q ex σ h→Q' ex σ h)→aC t c σ h Q→aC t c σ h Q'
 | .skip,σ,h,Q,Q',hQ,hh=>hQ _ _ _ hh
 | .region id ops draw,σ,h,Q,Q',hQ,⟨σ1,h1,hwk,hh⟩=>⟨σ1,h1,hwk,hh.imp (JkR (fun σ h hk=>hQ _ _ _ hk) (fun v h hk=>hQ _ _ _ hk)) fun⟨σ2,h2,x,y⟩=>⟨σ2,h2,x,hQ _ _ _ y⟩⟩
 | .seq a b,σ,h,Q,Q',hQ,hh=>by
  refine JaA a σ h _ _ (fun ex σ h hk=>?_) hh
  cases ex with
  | normal =>
   obtain⟨σ2,h2,hwk,hk⟩:=hk
   exact⟨σ2,h2,hwk,⟨fun hg=>JaA b σ2 h2 Q Q' hQ (hk.get hg)⟩⟩
  | exit id=>exact hQ _ _ _ hk
  | goto l=>exact hQ _ _ _ hk
  | ret=>exact hQ _ _ _ hk
  | panic ch=>exact hQ _ _ _ hk
  | outgrown=>exact hQ _ _ _ hk
 | .cond c x y,σ,h,Q,Q',hQ,hh=>by
  simp only[aC]at hh ⊢
  split at hh
  ·exact⟨fun p=>JaA x σ h Q Q' hQ (hh.1 p),fun p=>JaA y σ h Q Q' hQ (hh.2 p)⟩
  ·exact hh
 | .block id b,σ,h,Q,Q',hQ,hh=>by
  refine JaA b σ h _ _ (fun ex σ h hk=>?_) hh
  cases ex with
  | normal=>exact hQ _ _ _ hk
  | exit j =>
   simp only at hk ⊢
   split
   ·rename_i hj; rw[if_pos hj]at hk; exact hQ _ _ _ hk
   ·rename_i hj; rw[if_neg hj]at hk; exact hQ _ _ _ hk
  | goto l=>exact hQ _ _ _ hk
  | ret=>exact hQ _ _ _ hk
  | panic ch=>exact hQ _ _ _ hk
  | outgrown=>exact hQ _ _ _ hk
 | .loop b,σ,h,Q,Q',hQ,hh=>by
  obtain⟨I,h0,hr⟩:=hh
  refine⟨I,h0,fun n σ' h' hI hg=>JaA b σ' h' _ _ (fun ex σ h hk=>?_) (hr n σ' h' hI hg)⟩
  cases ex with
  | normal=>exact hk
  | exit id=>exact hQ _ _ _ hk
  | goto l=>exact hQ _ _ _ hk
  | ret=>exact hQ _ _ _ hk
  | panic ch=>exact hQ _ _ _ hk
  | outgrown=>exact hQ _ _ _ hk
 | .exit id,σ,h,Q,Q',hQ,hh=>hQ _ _ _ hh
 | .ret,σ,h,Q,Q',hQ,hh=>hQ _ _ _ hh
 | .rangeFunc _ _ _ _,_,_,_,_,_,hh=>hh.elim
 | .scope _,_,_,_,_,_,hh=>hh.elim
 | .label _,_,_,_,_,_,hh=>hh.elim
 | .goto _,_,_,_,_,_,hh=>hh.elim
 | .refuse _,_,_,_,_,_,hh=>hh.elim
theorem Jm5{a b:Code}(R:(Nat→AV)→Hp→Prop)(ha:aC t a σ h (Cut t.rt R Q))(hb:∀ σ h,R σ h→aC t b σ h Q):aC t (.seq a b) σ h Q:=by
 refine JaA a σ h _ _ (fun ex σ h hk=>?_) ha
 cases ex with
 | normal =>
  obtain⟨σ2,h2,hwk,hR⟩:=hk
  exact⟨σ2,h2,hwk,⟨fun _=>hb σ2 h2 hR⟩⟩
 | exit id=>exact hk
 | goto l=>exact hk
 | ret=>exact hk
 | panic ch=>exact hk
 | outgrown=>exact hk
def At{S R:Type}(J:S→Option R)(L:S→List (Nat×AV))(B:S→List (List C))(ts:List TypeId)(out:R)(σ:Nat→AV)(h:Hp):Prop :=
 ∃ s,σ=sigL (L s)∧h=hpL (B s) ts∧J s=some out
theorem KE{S R:Type}{a b:Code}(J:S→Option R)(L:S→List (Nat×AV))(B:S→List (List C))(ts:List TypeId)(out:R)
  (ha:aC t a σ h (Cut t.rt (At J L B ts out) Q)) (hb:∀ s,J s=some out→aC t b (sigL (L s)) (hpL (B s) ts) Q):aC t (.seq a b) σ h Q :=
 Jm5 _ ha (by rintro σ h ⟨s,rfl,rfl,hJ⟩; exact hb s hJ)
theorem Je{rt:Nat}{S R:Type}{J:S→Option R}{L:S→List (Nat×AV)}{B:S→List (List C)}{ts:List TypeId}{out:R}{s:S}(hJ:J s=some out)
  (hwk:Wk rt σ h (sigL (L s)) (hpL (B s) ts)):Cut rt (At J L B ts out) Q .normal σ h:=⟨_,_,hwk,s,rfl,rfl,hJ⟩
section
variable {S R:Type}
inductive Itn (b:S→Option (S ⊕ R)):Nat→S→R→Prop
 | done {s:S} {r:R}:b s=some (.inr r)→Itn b 0 s r
 | step {n:Nat} {s s':S} {r:R}:b s=some (.inl s')→Itn b n s' r→Itn b (n+1) s r
theorem Itn.det{b:S→Option (S ⊕ R)}{n m:Nat}{s:S}{r r':R}(h:Itn b n s r)(k:Itn b m s r'):r=r':=by
 induction h generalizing m with
 | done h =>
  cases k with
  | done k=>rw[h]at k; simpa using k
  | step k _=>rw[h]at k; simp at k
 | step h _ ih =>
  cases k with
  | done k=>rw[h]at k; simp at k
  | step k k2=>rw[h]at k; simp at k; subst k; exact ih k2
open Classical in
noncomputable def Jed(b:S→Option (S ⊕ R))(s:S):Option R:=if h:∃ r n,Itn b n s r then some (Classical.choose h) else none
theorem Jfx{b:S→Option (S ⊕ R)}{s:S}{r:R}:Jed b s=some r↔∃ n,Itn b n s r:=by
 unfold Jed
 constructor
 ·intro h
  split at h
  ·rename_i hx
   simp at h
   rw[← h]
   exact Classical.choose_spec hx
  ·cases h
 ·rintro ⟨n,h⟩
  have hx:∃ r n,Itn b n s r:=⟨r,n,h⟩
  rw[dif_pos hx]
  obtain⟨m,hm⟩:=Classical.choose_spec hx
  rw[hm.det h]
theorem Jjz{b:S→Option (S ⊕ R)}{s:S}(h:∀ r n,¬ Itn b n s r):Jed b s=none:=by
 unfold Jed
 rw[dif_neg]
 rintro ⟨r,n,k⟩
 exact h r n k
def bigF:Nat:=18446744073709551616
theorem JmG:2 ^ 64≤bigF:=Nat.le_refl _
noncomputable def JjY{S R:Type}(b:S→Option (S ⊕ R))(n:Nat):S→Option R :=
 Nat.rec (fun _=>none) (fun _ ih s=>match b s with | none=>none | some (.inl s')=>ih s' | some (.inr r)=>some r) n
theorem Je7{b:S→Option (S ⊕ R)}{r:R}:∀ {n:Nat} {s:S},JjY b n s=some r→∃ k,Itn b k s r
 | 0,s,h=>by cases h
 | n+1,s,h=>by
  have h:(match b s with | none=>none | some (.inl s')=>JjY b n s' | some (.inr r)=>some r)=some r:=h
  split at h
  ·cases h
  ·rename_i s' hs
   obtain⟨k,hk⟩:=Je7 h
   exact⟨k+1,.step hs hk⟩
  ·rename_i r' hs
   cases h
   exact⟨0,.done hs⟩
noncomputable def Ji(b:S→Option (S ⊕ R))(s:S):Option R:=match JjY b bigF s with | some r=>some r | none=>Jed b s
theorem JiN(b:S→Option (S ⊕ R))(s:S):Ji b s=Jed b s:=by
 unfold Ji
 split
 ·rename_i r h
  exact(Jfx.2 (Je7 h)).symm
 ·rfl
theorem JaH{b:S→Option (S ⊕ R)}{s:S}{r:R}:Ji b s=some r↔∃ n,Itn b n s r:=by rw[JiN]; exact Jfx
theorem Jff{b:S→Option (S ⊕ R)}{s:S}(h:∀ r n,¬ Itn b n s r):Ji b s=none:=by rw[JiN]; exact Jjz h
theorem XS(b:S→Option (S ⊕ R))(s:S):Ji b s=match b s with | none=>none | some (.inl s')=>Ji b s' | some (.inr r)=>some r:=by
 split
 ·rename_i h
  refine Jff fun r n k=>?_
  cases k with
  | done k=>rw[h]at k; cases k
  | step k _=>rw[h]at k; cases k
 ·rename_i s' h
  cases hl:Ji b s' with
  | some r =>
   obtain⟨n,hn⟩:=JaH.1 hl
   exact JaH.2 ⟨n+1,.step h hn⟩
  | none =>
   refine Jff fun r n k=>?_
   cases k with
   | done k=>rw[h]at k; simp at k
   | step k k2 =>
    rw[h]at k; simp at k; subst k
    rw[JaH.2 ⟨_,k2⟩]at hl
    cases hl
 ·rename_i r h
  exact JaH.2 ⟨0,.done h⟩
def Fin'(b:S→Option (S ⊕ R))(n:Nat)(o:S ⊕ R)(out:R):Prop:=match o with | .inl s'=>∃ m,m<n∧Itn b m s' out | .inr r=>r=out
theorem Itn.inv{b:S→Option (S ⊕ R)}{n:Nat}{s:S}{out:R}(h:Itn b n s out):∃ o,b s=some o∧Fin' b n o out:=by
 cases h with
 | done h=>exact⟨_,h,rfl⟩
 | step h k=>exact⟨_,h,_,Nat.lt_succ_self _,k⟩
def LI(b:S→Option (S ⊕ R))(L:S→List (Nat×AV))(B:S→List (List C))(ts:List TypeId)(out:R)(n:Nat)(σ:Nat→AV)(h:Hp):Prop :=
 ∃ s,σ=sigL (L s)∧h=hpL (B s) ts∧Itn b n s out
theorem Kc{c:Code}(b:S→Option (S ⊕ R))(L:S→List (Nat×AV))(B:S→List (List C))(ts:List TypeId){s0:S}{out:R}(H:Ji b s0=some out)
  (hwk:Wk t.rt σ h (sigL (L s0)) (hpL (B s0) ts))
  (hr:∀ n s o,b s=some o→Fin' b n o out→aC t c (sigL (L s)) (hpL (B s) ts) (Jfz t.rt n (LI b L B ts out) Q)):aC t (.loop c) σ h Q:=by
 obtain⟨n,hn⟩:=JaH.1 H
 refine⟨LI b L B ts out,⟨n,_,_,hwk,s0,rfl,rfl,hn⟩,?_⟩
 rintro n _ _ ⟨s,rfl,rfl,hI⟩ _
 obtain⟨o,h1,h2⟩:=hI.inv
 exact hr n s o h1 h2
def UnR(t:Tab)(c:Code)(Q:Kt):Nat→Kt
 | 0=>fun ex σ h=>match ex with | .normal=>False | ex=>Q ex σ h
 | k+1=>fun ex σ h=>match ex with | .normal=>aC t c σ h (UnR t c Q k) | ex=>Q ex σ h
theorem Jmu{c:Code}{k:Nat}(hh:aC t c σ h (UnR t c Q k)):UnR t c Q (k+1) .normal σ h:=hh
theorem Jm0{c:Code}{k:Nat}(hh:Q .ret σ h):UnR t c Q k .ret σ h:=by cases k <;> exact hh
theorem Jml{c:Code}{k i:Nat}(hh:Q (.exit i) σ h):UnR t c Q k (.exit i) σ h:=by cases k <;> exact hh
theorem Jlo{c:Code}{k:Nat}{ch:List PanicEntry}(hh:Q (.panic ch) σ h):UnR t c Q k (.panic ch) σ h:=by cases k <;> exact hh
theorem JE{rt:Nat}{b:S→Option (S ⊕ R)}{L:S→List (Nat×AV)}{B:S→List (List C)}{ts:List TypeId}{out:R}{n:Nat}{s':S}(hF:Fin' b n (.inl s') out)
  (hwk:Wk rt σ h (sigL (L s')) (hpL (B s') ts)):Jfz rt n (LI b L B ts out) Q .normal σ h:=by
 obtain⟨m,hm,hI⟩:=hF
 exact⟨m,_,_,hm,hwk,s',rfl,rfl,hI⟩
def inrO(x:Option R):Option (S ⊕ R):=x.map .inr
theorem Jk3{x:Option R}{o:S ⊕ R}(h:inrO x=some o):∃ r,x=some r∧o=.inr r:=by
 unfold inrO at h
 rw[Option.map_eq_some_iff]at h
 obtain⟨r,h1,h2⟩:=h
 exact⟨r,h1,h2.symm⟩
end
theorem Jc{α:Type}{p:Bool}{A B o:Option α}(H:(if p=true then A else B)=o):(p=true∧A=o)∨(p=false∧B=o):=by
 cases p
 ·exact .inr ⟨rfl,by simpa using H⟩
 ·exact .inl ⟨rfl,by simpa using H⟩
theorem Jd{α:Type}{p:Prop} [Decidable p] {A:Option α} {o:α} (H:(if p then A else none)=some o):p∧A=some o:=by
 by_cases hp:p
 ·exact⟨hp,by simpa [hp] using H⟩
 ·simp[hp]at H
theorem Jr{α β:Type}{x:Option α}{f:α→Option β}{o:β}(H:x.bind f=some o):∃ a,x=some a∧f a=some o:=by
 cases x with
 | none=>simp at H
 | some a=>exact⟨a,rfl,H⟩
theorem Jf{α β:Type}(f:α→β)(l:List α)(n:Nat)(d:β)(e:α)(h:n<l.length):(l.map f).getD n d=f (l.getD n e):=by
 simp[List.getD_eq_getElem?_getD,List.getElem?_eq_getElem h]
def dI(n:Int):D:=.v (.int .i64 n)
def dB(b:Bool):D:=.v (.bool b)
def dE(b:Bool):D:=.ne b
def dS(l:List UInt8):D:=.v (str l)
def dU(c:UInt8):D:=.v (.int .u8 (c.toNat:Int))
def dL{α:Type}(sz:Nat)(e:α→D)(l:List α):D:=.sl sz (l.map e)
theorem XI(a b:Int)(h:dI a=dI b):a=b:=by simpa [dI] using h
theorem Jk0(a b:Bool)(h:dB a=dB b):a=b:=by simpa [dB] using h
theorem Jbo(a b:List UInt8)(h:dS a=dS b):a=b:=by simpa [dS] using h
theorem Jle(a b:UInt8)(h:dU a=dU b):a=b:=by
 simp only[dU,D.v.injEq,Value.int.injEq,true_and]at h
 exact UInt8.toNat_inj.1 (by omega)
theorem JhD{α β:Type}{f:α→β}(hf:∀ a b,f a=f b→a=b):∀ (l m:List α),l.map f=m.map f→l=m
 | [],[],_=>rfl
 | [],_::_,h=>by simp at h
 | _::_,[],h=>by simp at h
 | a::l,b::m,h=>by
  simp only[List.map_cons,List.cons.injEq]at h
  rw[hf a b h.1,JhD hf l m h.2]
theorem JkD{α:Type}{sz:Nat}{e:α→D}(he:∀ a b,e a=e b→a=b)(l m:List α)(h:dL sz e l=dL sz e m):l=m:=by
 simp only[dL,D.sl.injEq,true_and]at h
 exact JhD he l m h
theorem Jjo(l:List UInt8):(l.map dU).map unU8=l:=by
 have:=JlZ l
 exact this
theorem Jk6(l:List UInt8):∃ bs,l.map dU=u8s bs:=⟨l,rfl⟩
theorem VF{α:Type}{e:α→D}(he:∀ a,(e a).cells.all D.one=true)(l:List α):∀ y∈l.map e,y.cells.all D.one=true:=by
 intro y hy
 obtain⟨a,_,rfl⟩:=List.mem_map.1 hy
 exact he a
theorem Jb0(a:List UInt8):(dS a).cells.all D.one=true:=rfl
open Classical in
noncomputable def PF.of{A R:Type}(enc:A→List D)(f:A→Option R)(e:R→D):PF :=
 ⟨fun l=>∃ a r,les1 l (enc a)∧f a=some r,fun l=>if h:∃ d,∃ a r,les1 l (enc a)∧f a=some r∧d=e r then Classical.choose h else .v undef⟩
def Inj{A:Type}(enc:A→List D):Prop:=∀ a b,(enc a).map VC=(enc b).map VC→a=b
theorem PF.of_prel{A R:Type}{enc:A→List D}{f:A→Option R}{e:R→D}{l:List D}{a:A}{r:R}(hl:les1 l (enc a))(H:f a=some r):(PF.of enc f e).pre l=True :=
 eq_true ⟨a,r,hl,H⟩
theorem PF.of_vall{A R:Type}{enc:A→List D}{f:A→Option R}{e:R→D}(inj:Inj enc){l:List D}{a:A}{r:R}(hl:les1 l (enc a))(H:f a=some r):(PF.of enc f e).val l=e r:=by
 have hx:∃ d,∃ a' r',les1 l (enc a')∧f a'=some r'∧d=e r':=⟨_,a,r,hl,H,rfl⟩
 simp only[PF.of]
 rw[dif_pos hx]
 obtain⟨a',r',h1,h2,h3⟩:=Classical.choose_spec hx
 rw[h3]
 have:=inj a a' ((JcZ hl).symm.trans (JcZ h1))
 subst this
 rw[H]at h2
 cases h2
 rfl
theorem PF.of_pre{A R:Type}{enc:A→List D}{f:A→Option R}{e:R→D}{a:A}{r:R}(H:f a=some r):(PF.of enc f e).pre (enc a)=True :=
 PF.of_prel (Jb8 _) H
theorem PF.of_val{A R:Type}{enc:A→List D}{f:A→Option R}{e:R→D}(inj:Inj enc){a:A}{r:R}(H:f a=some r):(PF.of enc f e).val (enc a)=e r :=
 PF.of_vall inj (Jb8 _) H
theorem Jmw{A R:Type}{enc:A→List D}{f:A→Option R}{e:R→D}(inj:Inj enc){t:Tab}(hrt:t.rt=0){pure:Nat→Nat}(ht:TabOk t)(hm:t.P.follows .mixedOrders=true)(hpure:∀ n,pure n=0→(t.Φ n).isSome)(hnp:∀ n,pure n=1→∀ g,t.G n g→∃ val bs ts,g.out=.ret val bs ts)
  {k:Nat} {fn:Func} {c:Code} (hf:t.P.funcs[k]? = some fn) (hb:fn.body=some c) (hcode:(KG pure t.lk fn.ntmps c && fn.results.toList.all (VW fn.ntmps) && fn.ntmps.ble DS)=true)
  (hl:∀ a,(enc a).length≤fn.ntmps)
  (h:∀ a r,f a=some r→aC t c (sig0 ((enc a).map fun d=>.c (.d d))) hp0 (JaZ t.P t.rt fn (e r))):J7 t.P k (PF.of enc f e):=by
 have hx:∀ a r,f a=some r→J7 t.P k ⟨fun l=>l=enc a,fun _=>e r⟩:=fun a r H=>by
  refine JjZ ht hm hpure hnp hf hb hcode _ ?_
  rintro args rfl
  exact⟨hl a,hrt,_,_,Wk.refl _ _ _,fun _=>h a r H⟩
 intro w S args vs hG hargs hS hp
 obtain⟨a,r,hle,H⟩:=hp
 have:=hx a r H w S (enc a) vs hG (JcA hle hargs) hS rfl
 rwa [PF.of_vall inj hle H]
noncomputable def tab(P:Program)(l:List (Nat×PF))(gl:List (Nat×Bool×(GI→Prop)))(dl:List (Nat×(DI→Prop)))(rt:Nat)(lk:List Nat):Tab :=
 ⟨P,fun n=>l.lookup n,fun _=>none,rt,fun n g=>∃ p∈gl,p.1=n∧p.2.2 g,fun n d=>∃ p∈dl,p.1=n∧p.2 d,lk⟩
theorem Jfc{α:Type}:∀ {l:List (Nat×α)} {n:Nat} {x:α},l.lookup n=some x→(n,x)∈l
 | [],_,_,h=>by cases h
 | (k,y)::l,n,x,h=>by
  rw[List.lookup_cons]at h
  split at h
  ·rename_i hk; simp at hk h; subst hk; subst h; simp
  ·exact List.mem_cons_of_mem _ (Jfc h)
def Jbm(P:Program):List (Nat×PF)→Prop
 | []=>True
 | (k,pf)::l=>(Jg P k∧J7 P k pf)∧Jbm P l
def Zg(P:Program):List (Nat×Bool×(GI→Prop))→Prop
 | []=>True
 | (k,np,S)::l=>(Jg P k∧(∀ g,S g→Kq P k g)∧(np=true→∀ g,S g→∃ val bs ts,g.out=.ret val bs ts))∧Zg P l
def JbO(P:Program):List (Nat×(DI→Prop))→Prop
 | []=>True
 | (k,S)::l=>(Jg P k∧∀ d,S d→DOk P k d)∧JbO P l
theorem Jbm.mem{P:Program}:∀ {l:List (Nat×PF)},Jbm P l→∀ p∈l,Jg P p.1∧J7 P p.1 p.2
 | (_,_)::_,⟨h1,h2⟩,p,hp=>by
  rcases List.mem_cons.1 hp with rfl | hp
  ·exact h1
  ·exact Jbm.mem h2 p hp
theorem Zg.mem{P:Program}:∀ {l:List (Nat×Bool×(GI→Prop))},Zg P l→∀ p∈l,Jg P p.1∧(∀ g,p.2.2 g→Kq P p.1 g)∧(p.2.1=true→∀ g,p.2.2 g→∃ val bs ts,g.out=.ret val bs ts)
 | (_,_,_)::_,⟨h1,h2⟩,p,hp=>by
  rcases List.mem_cons.1 hp with rfl | hp
  ·exact h1
  ·exact Zg.mem h2 p hp
theorem JbO.mem{P:Program}:∀ {l:List (Nat×(DI→Prop))},JbO P l→∀ p∈l,Jg P p.1∧∀ d,p.2 d→DOk P p.1 d
 | (_,_)::_,⟨h1,h2⟩,p,hp=>by
  rcases List.mem_cons.1 hp with rfl | hp
  ·exact h1
  ·exact JbO.mem h2 p hp
theorem Jh1{P:Program}{l:List (Nat×PF)}{gl:List (Nat×Bool×(GI→Prop))}{dl:List (Nat×(DI→Prop))}{rt:Nat}{lk:List Nat}(h1:Jbm P l)(h2:Zg P gl)(h3:JbO P dl):TabOk (tab P l gl dl rt lk):=by
 refine⟨fun _ _ h=>h1.mem _ (Jfc h),fun _ _ h=>(by cases h),?_,?_⟩
 ·rintro f g ⟨p,hp,rfl,hg⟩
  exact⟨(h2.mem p hp).1,(h2.mem p hp).2.1 g hg⟩
 ·rintro f d ⟨p,hp,rfl,hd⟩
  exact⟨(h3.mem p hp).1,(h3.mem p hp).2 d hd⟩
def Zo(ks:List Nat)(gs:List (Nat×Bool))(n:Nat):Nat:=if ks.contains n then 0 else if gs.any (fun p=>p.1 == n) && gs.all (fun p=>p.1 != n || p.2) then 1 else 2
theorem Jg8:∀ {l:List (Nat×PF)} {n:Nat},(l.map Prod.fst).contains n=true→(l.lookup n).isSome
 | [],n,h=>by simp at h
 | (k,pf)::l,n,h=>by
  rw[List.lookup_cons]
  split
  ·rfl
  ·rename_i hk
   simp only[List.map_cons,List.contains_cons,Bool.or_eq_true]at h
   rcases h with h | h
   ·simp at hk h; exact absurd h hk
   ·exact Jg8 h
theorem JcV{P:Program}{l:List (Nat×PF)}{gl:List (Nat×Bool×(GI→Prop))}{dl:List (Nat×(DI→Prop))}{rt:Nat}{lk:List Nat}(n:Nat)(hn:Zo (l.map Prod.fst) (gl.map fun p=>(p.1,p.2.1)) n=0):((tab P l gl dl rt lk).Φ n).isSome:=by
 unfold Zo at hn
 split at hn
 ·rename_i h; exact Jg8 h
 ·split at hn <;> cases hn
theorem Jfs{P:Program}{l:List (Nat×PF)}{gl:List (Nat×Bool×(GI→Prop))}{dl:List (Nat×(DI→Prop))}{rt:Nat}{lk:List Nat}(h2:Zg P gl)(n:Nat)(hn:Zo (l.map Prod.fst) (gl.map fun p=>(p.1,p.2.1)) n=1)(g:GI)(hg:(tab P l gl dl rt lk).G n g):
  ∃ val bs ts,g.out=.ret val bs ts:=by
 unfold Zo at hn
 split at hn
 ·cases hn
 ·split at hn
  ·rename_i h
   simp only[Bool.and_eq_true,List.all_eq_true,List.mem_map]at h
   obtain⟨p,hp,rfl,hS⟩:=hg
   refine(h2.mem p hp).2.2 ?_ g hS
   have:=h.2 (p.1,p.2.1) ⟨p,hp,rfl⟩
   simpa using this
  ·cases hn
end Go.Proofs.YtfkhlbhjhdpkoaaDoor
namespace Go.Proofs.YtfkhlbhjhdpkoaaDoor
open Go.RowKit
def Ja1(P:Program)(σ:Nat→AV)(h:Hp):ResultVar→Prop×AV
 | .tmp t=>(True,σ t)
 | .cell a ty=>match σ a with
  | .c (.pt n 0)=>match h.H n with
   | some row=>(rowP row=true∧(Ka P h ty row 0).pre,(Ka P h ty row 0).val)
   | none=>(False,KP)
  | _=>(False,KP)
def Xm(P:Program)(σ:Nat→AV)(h:Hp):List ResultVar→Prop×List AV
 | []=>(True,[])
 | r::rs=>((Ja1 P σ h r).1∧(Xm P σ h rs).1,(Ja1 P σ h r).2::(Xm P σ h rs).2)
def Xg:List AV→Option (List (Bool×List C))
 | []=>some []
 | .c x::l=>(Xg l).map fun m=>(false,[x])::m
 | .ag y::l=>(Xg l).map fun m=>(true,y)::m
 | _::_=>none
def Jdh:List AV→Option AV
 | [a]=>some a
 | l=>(Xg l).map .tu
theorem Jcp{e:Env}:∀ {l:List AV} {m:List (Bool×List C)} {vs:List Value},Xg l=some m→RAs e l vs→RTs e m vs
 | [],_,[],h,_=>by cases h; trivial
 | .c x::l,_,v::vs,h,⟨k1,k2⟩=>by
  obtain⟨m,h1,rfl⟩:=Option.map_eq_some_iff.1 h
  exact⟨⟨x,rfl,k1⟩,Jcp h1 k2⟩
 | .ag y::l,_,v::vs,h,⟨k1,k2⟩=>by
  obtain⟨m,h1,rfl⟩:=Option.map_eq_some_iff.1 h
  exact⟨k1,Jcp h1 k2⟩
 | .tu _::_,_,_::_,h,_=>by cases h
 | .df _::_,_,_::_,h,_=>by cases h
 | [],_,_::_,_,k=>k.elim
 | _::_,_,[],_,k=>k.elim
theorem Jj9{Γ:Ctx}{σ:Nat→AV}{h:Hp}{a:Act}{e:Env}(hs:∀ i,i<Γ.nt→RA e (σ i) (a.tmps.getD i undef))(hw:WInv Γ h e){r:ResultVar}(hin:VW Γ.nt r=true)(hp:(Ja1 Γ.P σ h r).1):
  ∃ v,(match r with | .tmp t=>pure (a.tmps.getD t undef) | .cell x ty=>do loadVar ty (← asAddr (a.tmps.getD x undef)):Sem Value).run Γ.P e.w=.ok v e.w∧RA e (Ja1 Γ.P σ h r).2 v:=by
 cases r with
 | tmp t =>
  simp only[VW,decide_eq_true_eq]at hin
  exact⟨_,by simp,hs t hin⟩
 | cell x ty =>
  simp only[VW,decide_eq_true_eq]at hin
  have hx:=hs x hin
  simp only[Ja1]at hp ⊢
  split at hp
  ·rename_i n hσ
   split at hp
   ·rename_i row hrow
    rw[hσ]at hx
    obtain⟨b,h2,h3⟩:=hx
    obtain⟨b',cs,ty',h4,h5,h6,h7,_⟩:=hw.boxAt h2 row hrow (V1 hp.1)
    rw[h2]at h4
    simp at h4
    subst h4
    obtain⟨v,h8,h9⟩:=Ja8 (b:=b) (o:=0) hp.2 (h6.plain hp.1) (fun i x hx=>by simp[World.cell?,h5]; simpa using hx)
    refine⟨v,?_,h9⟩
    simp only[Nat.zero_add]at h8
    simp only[h3,asAddr,Sem.run_bind,Sem.run_pure,Result.andThen_ok]
    simpa [Instr.loadAt,Instr.sureAddr] using h8
   ·exact hp.elim
  ·exact hp.elim
theorem Jgw{Γ:Ctx}{σ:Nat→AV}{h:Hp}{a:Act}{e:Env}(hs:∀ i,i<Γ.nt→RA e (σ i) (a.tmps.getD i undef))(hw:WInv Γ h e):∀ (rs:List ResultVar),(rs.all (VW Γ.nt))=true→(Xm Γ.P σ h rs).1 →
  ∃ vs,(rs.mapM fun r=>(match r with | .tmp t=>pure (a.tmps.getD t undef) | .cell x ty=>do loadVar ty (← asAddr (a.tmps.getD x undef)):Sem Value)).run Γ.P e.w=.ok vs e.w∧RAs e (Xm Γ.P σ h rs).2 vs
 | [],_,_=>⟨[],by simp,trivial⟩
 | r::rs,hin,hp=>by
  simp only[List.all_cons,Bool.and_eq_true]at hin
  obtain⟨v,h1,h2⟩:=Jj9 hs hw hin.1 hp.1
  obtain⟨vs,h3,h4⟩:=Jgw hs hw rs hin.2 hp.2
  refine⟨v::vs,?_,h2,h4⟩
  rw[List.mapM_cons,Sem.run_bind,h1,Result.andThen_ok,Sem.run_bind,h3]
  rfl
theorem JjE{Γ:Ctx}{σ:Nat→AV}{h:Hp}{a:Act}{e:Env}{fn:Func}{av:AV}(hs:∀ i,i<Γ.nt→RA e (σ i) (a.tmps.getD i undef))(hw:WInv Γ h e)(hin:(fn.results.toList.all (VW Γ.nt))=true)
  (hr:(Xm Γ.P σ h fn.results.toList).1) (hj:Jdh (Xm Γ.P σ h fn.results.toList).2=some av):∃ v,(results fn a.tmps).run Γ.P e.w=.ok v e.w∧RA e av v:=by
 obtain⟨vs,h1,h2⟩:=Jgw hs hw fn.results.toList hin hr
 have hrun:(fn.results.mapM fun r=>(match r with | .tmp t=>pure (a.tmps.getD t undef) | .cell x ty=>do loadVar ty (← asAddr (a.tmps.getD x undef)):Sem Value)).run Γ.P e.w=.ok vs.toArray e.w:=by
  rw[Array.mapM_eq_mapM_toList,Sem.run_map,h1]; rfl
 refine⟨if h:vs.toArray.size=1 then vs.toArray[0] else .tuple vs.toArray,?_,?_⟩
 ·unfold results
  rw[Sem.run_bind]
  erw [hrun]
  rfl
 ·generalize (Xm Γ.P σ h fn.results.toList).2=as at h2 hj
  match as,vs,h2,hj with
  | [],[],_,hj=>cases hj; exact⟨[],rfl,trivial⟩
  | [x],[v],⟨k1,_⟩,hj=>cases hj; simpa using k1
  | [x],v::u::vs,⟨_,k2⟩,_=>exact k2.elim
  | x::y::as,[v],⟨_,k2⟩,_=>exact k2.elim
  | x::y::as,v::u::vs,k,hj =>
   have hj:(Xg (x::y::as)).map AV.tu=some av:=hj
   obtain⟨m,h3,rfl⟩:=Option.map_eq_some_iff.1 hj
   rw[dif_neg (by simp)]
   exact⟨_,rfl,Jcp h3 k⟩
structure FinWk (nb:Nat) (r:Ren) (h:Hp) (bs:List (List C)) (ts:List TypeId):Prop where
 lb:bs.length=r.ps.length
 lt:ts.length=r.qs.length
 op:once r.ps=true
 oq:once r.qs=true
 bwk:BWk r h 1 bs
 twk:TWk r h (r.ps.length+1) ts
 rt:(r.ps.take nb == List.range' 1 nb)=true
 nb:nb≤bs.length
def QL(t:Tab)(rs:List ResultVar)(nb:Nat)(out:GOut):List (Nat×List C)→Option Value→(Nat→AV)→Hp→Prop
 | [],none,σ,h=>match out with
  | .ret val bs ts=>∃ r av,FinWk nb r h bs ts∧(Xm t.P σ h rs).1∧Jdh (Xm t.P σ h rs).2=some av∧AWk r av val
  | _=>False
 | [],some v,_,h=>match out with
  | .pan v' bs ts=>v=v'∧∃ r,FinWk nb r h bs ts
  | _=>False
 | (f,cs)::l,u,σ,h=>∃ d r,t.D f d∧d.u=u∧GHands h r ⟨d.args,d.bs,d.ts,.ret KP [] []⟩ (cs.map AV.c)∧QL t rs nb out l d.u' σ (h.after r d.bs' d.ts')
theorem JjT{r:Ren}{e:Env}{Γ:Ctx}{bs:List (List C)}{ts:List TypeId}(hw:WInv Γ (hpL bs ts) (renE r e)):Jdb (renE r e) (bs.length+ts.length):=by
 intro i hi
 rcases hi with rfl | hi
 ·refine⟨?_,?_⟩
  ·simp[renE]
  ·simp[renE]
 ·exact(hw.fresh i (by simp[hpL]; omega)).2.2
theorem FinWk.fin{P:Program}{Γ:Ctx}{nb nt0:Nat}{e0 e:Env}{r:Ren}{h:Hp}{bs:List (List C)}{ts:List TypeId}(k:FinWk nb r h bs ts)(hroot:Γ.root.length=nb)(hw:WInv Γ h e)
  (hΓ:∀ e',WInv Γ (hpL bs ts) e'→WInv (ctxG P nb nt0 e0) (hpL bs ts) e'):GFin P nb nt0 e0 bs ts (renE r e):=by
 have h1:=JfJ r k.lb k.lt k.op k.oq k.bwk k.twk k.rt hroot hw
 exact⟨hΓ _ h1,JjT h1,k.nb⟩
theorem JhS{t:Tab}(ht:TabOk t){Γ:Ctx}(hP:t.P=Γ.P){nb nt0:Nat}{out:GOut}{fn:Func}(hroot:Γ.root.length=nb){e0:Env}(hΓ:∀ bs ts e',WInv Γ (hpL bs ts) e'→WInv (ctxG Γ.P nb nt0 e0) (hpL bs ts) e')
  (hin:(fn.results.toList.all (VW Γ.nt))=true):∀ (l:List (Nat×List C)) (u:Option Value) (σ:Nat→AV) (h:Hp) (a:Act) (e:Env) (dl:List Deferred),QL t fn.results.toList nb out l u σ h→RDl e l dl →
   (∀ i,i<Γ.nt→RA e (σ i) (a.tmps.getD i undef))→WInv Γ h e→Leaves Γ.P fn a.tmps (JjV Γ.P e0 nb nt0 out) dl (JdU u) e.w
 | [],none,σ,h,a,e,dl,hq,hd,hs,hw=>by
  cases dl with
  | cons _ _=>exact hd.elim
  | nil =>
   unfold QL at hq
   split at hq
   ·obtain⟨r,av,k1,k2,k3,k4⟩:=hq
    rw[hP]at k2 k3
    obtain⟨v,h1,h2⟩:=JjE (Γ:=Γ) hs hw hin k2 k3
    exact⟨v,h1,v,renE r e,rfl,rfl,k1.fin hroot hw (hΓ _ _),AWk.ra k4 h2⟩
   ·exact hq.elim
 | [],some v,σ,h,a,e,dl,hq,hd,hs,hw=>by
  cases dl with
  | cons _ _=>exact hd.elim
  | nil =>
   unfold QL at hq
   split at hq
   ·obtain⟨rfl,r,k1⟩:=hq
    exact⟨renE r e,rfl,rfl,k1.fin hroot hw (hΓ _ _)⟩
   ·exact hq.elim
 | (f,cs)::l,u,σ,h,a,e,dl,hq,hd,hs,hw=>by
  cases dl with
  | nil=>exact hd.elim
  | cons q dl =>
   obtain⟨⟨cap,vs,k1,k2,k3⟩,hd⟩:=hd
   obtain⟨d,r,hD,hu,hH,hq⟩:=hq
   obtain⟨hcall,hdok⟩:=ht.df _ _ hD
   rw[hP]at hcall hdok
   have hands:Hands Γ h e r d.bs d.ts:=⟨hw,hH.lb,hH.lt,hH.op,hH.oq,hH.bwk,hH.twk,hH.live⟩
   obtain⟨q1,q2⟩:=hands.enter
   have hargs:RAs e (cs.map AV.c) vs:=by
    have:∀ {cs:List C} {vs:List Value},RCs e cs vs→RAs e (cs.map AV.c) vs:=by
     intro cs
     induction cs with
     | nil=>intro vs h; cases vs with | nil=>trivial | cons _ _=>exact h.elim
     | cons c cs ih=>intro vs h; cases vs with
      | nil=>exact h.elim
      | cons v vs=>exact⟨h.1,ih h.2⟩
    exact this k3
   refine⟨by cases u <;> simp[JdU],.func f,cap,f,⟨vs⟩,k1,?_,?_⟩
   ·rw[k1]
    simp only[invoke,k2]
    exact hcall _ _
   ·have:=hdok (renE r e) vs q1 q2 (AsWk.ras hH.args hargs)
    rw[hu]at this
    refine this.mono ?_
    rintro en u' w' ⟨v,e',rfl,hst,rfl,p1,p2,p3⟩
    show Leaves Γ.P fn a.tmps _ dl (settle u') e'.w
    rw[hst]
    have hle:=hands.le p1
    exact JhS ht hP hroot hΓ hin l d.u' σ _ a (KQ h e e') dl hq (hd.mono hle) (fun i hi=>RA.mono hle (hs i hi)) (hands.leave p1 p2 p3)
def QGen(t:Tab)(fn:Func)(nb:Nat)(out:GOut):Kt:=fun ex σ h =>
 match ex with
 | .ret=>QL t fn.results.toList nb out (dfL (σ DS)) none σ h
 | .normal=>QL t fn.results.toList nb out (dfL (σ DS)) none σ h
 | .panic Jfw=>∃ v,Jfw=[{ v:=v,recovered:=false }]∧QL t fn.results.toList nb out (dfL (σ DS)) (some v) σ h
 | _=>False
def JcX(t:Tab)(fn:Func)(nb:Nat)(out:GOut):Kt:=fun ex σ h=>∃ σ' h',Wk nb σ h σ' h'∧QGen t fn nb out ex σ' h'
theorem RAs.get{e:Env}:∀ {l:List AV} {vs:List Value},RAs e l vs→∀ i,(h:i<l.length)→∃ v,vs[i]? = some v∧RA e l[i] v
 | [],[],_,i,h=>by simp at h
 | a::l,v::vs,⟨k1,k2⟩,i,h=>by
  cases i with
  | zero=>exact⟨v,rfl,k1⟩
  | succ i=>simpa using RAs.get k2 i (by simpa using h)
theorem Jnb{nt:Nat}{args:List AV}{vs:List Value}{e:Env}(h:RAs e args vs)(hl:args.length≤nt)(hd:nt≤DS):
  Jm nt [] (sig0 args) { tmps:=(⟨vs⟩:Array Value)++Array.replicate (nt-(⟨vs⟩:Array Value).size) undef,defers:=[] } e:=by
 have hlen:=h.length
 refine⟨by simp[hlen]; omega,⟨⟨[],rfl,by rw[JfQ (by omega)]; trivial⟩,hd⟩,fun i hi=>?_⟩
 rcases Nat.lt_or_ge i args.length with hlt | hge
 ·obtain⟨v,h1,h2⟩:=h.get i hlt
  have e1:sig0 args i=args[i]:=by simp[sig0,hlt]
  have e2:((⟨vs⟩:Array Value)++Array.replicate (nt-(⟨vs⟩:Array Value).size) undef).getD i undef=v:=by
   have hiv:i<vs.length:=by omega
   simp only[Array.getD_eq_getD_getElem?]
   rw[Array.getElem?_append_left (by simpa using hiv)]
   simp[h1]
  rw[e1,e2]
  exact h2
 ·have e1:sig0 args i=KP:=by simp[sig0,hge]
  have e2:((⟨vs⟩:Array Value)++Array.replicate (nt-(⟨vs⟩:Array Value).size) undef).getD i undef=undef:=by
   simp only[Array.getD_eq_getD_getElem?]
   rw[Array.getElem?_append_right (by simp; omega),Array.getElem?_replicate]
   split <;> rfl
  rw[e1,e2]
  exact RA.undef e
theorem WInv.reCtx{Γ Γ':Ctx}{h:Hp}{e:Env}(hw:WInv Γ h e)(h1:Γ'.P=Γ.P)(h2:Γ'.w0=Γ.w0)(h3:Γ'.B=Γ.B)(h4:Γ'.S0=Γ.S0)(h5:Γ'.M=Γ.M)(h6:Γ'.root=Γ.root):WInv Γ' h e:=by
 obtain⟨P,w0,B,S0,M,nt,ds,root⟩:=Γ
 obtain⟨P',w0',B',S0',M',nt',ds',root'⟩:=Γ'
 simp only at h1 h2 h3 h4 h5 h6
 subst h1; subst h2; subst h3; subst h4; subst h5; subst h6
 exact⟨hw.g0,hw.os,hw.tape,hw.output,hw.grown,hw.hB,hw.old,hw.sdom,hw.s0,hw.s0B,hw.keep,hw.box,hw.inj,hw.tok,hw.tokinj,hw.fresh,hw.nx0,hw.rt⟩
theorem Jky{t:Tab}{pure:Nat→Nat}(ht:TabOk t)(hm:t.P.follows .mixedOrders=true)(hpure:∀ n,pure n=0→(t.Φ n).isSome)(hnp:∀ n,pure n=1→∀ g,t.G n g→∃ val bs ts,g.out=.ret val bs ts){f:Nat}{fn:Func}{c:Code}(hf:t.P.funcs[f]? = some fn)(hb:fn.body=some c)
  (hcode:(KG pure t.lk fn.ntmps c && fn.results.toList.all (VW fn.ntmps) && fn.ntmps.ble DS)=true) (g:GI) (hrt:t.rt=g.bs.length) (hl:g.args.length≤fn.ntmps)
  (h:aC t c (sig0 g.args) (hpL g.bs g.ts) (JcX t fn g.bs.length g.out)):Kq t.P f g:=by
 simp only[Bool.and_eq_true]at hcode
 intro e vs hw hcan hargs
 refine calls_of_wp_defers hf hb ?_
 let Γ:Ctx:={ ctxG t.P g.bs.length g.ts.length e with nt:=fn.ntmps }
 have hwΓ:WInv Γ (hpL g.bs g.ts) e:=hw.reCtx rfl rfl rfl rfl rfl rfl
 have hroot:Γ.root.length=g.bs.length:=by simp[Γ,ctxG]
 refine XQ (Γ:=Γ) (t:=t) (pure:=pure) ht rfl (by rw[hroot,hrt]) hm hpure hnp c _ _ hcode.1.1 (fun ex σ h a e1 hk hs1 hw1=>?_) _ _ _ e h (Jnb hargs hl (Nat.le_of_ble_eq_true hcode.2)) hwΓ
 obtain⟨σ,h,hwk,hk⟩:=hk
 obtain⟨e',he',hs',hw'⟩:=hwk Γ a e1 hroot hs1 hw1
 rw[← he']
 have fin:∀ u,QL t fn.results.toList g.bs.length g.out (dfL (σ DS)) u σ h→Leaves t.P fn a.tmps (JjV t.P e g.bs.length g.ts.length g.out) a.defers (JdU u) e'.w:=fun u hq=>by
  obtain⟨r,h1,h2⟩:=hs'.2.1.1
  have h1:a.defers=r:=by simpa [Γ,ctxG] using h1
  rw[h1]
  exact JhS (Γ:=Γ) ht rfl hroot (fun bs ts e' hw=>hw.reCtx rfl rfl rfl rfl rfl rfl) hcode.1.2 _ u σ h a e' r hq h2 hs'.2.2 hw'
 cases ex with
 | normal=>exact fin none hk
 | ret=>exact fin none hk
 | exit id=>exact hk.elim
 | goto l=>exact hk.elim
 | panic ch =>
  obtain⟨v,rfl,hk⟩:=hk
  exact fin (some v) hk
 | outgrown=>exact hk.elim
end Go.Proofs.YtfkhlbhjhdpkoaaDoor
namespace Go.Proofs.YtfkhlbhjhdpkoaaDoor
open Go.RowKit
def bsl(l:List UInt8):ByteArray:=⟨⟨l⟩⟩
def Jd6(P:Program)(N:Nat):Prop:=(∀ args w,(callFunc N args).run P w=.ok (.enter N args) w) ∧
 ∀ (l bs bp bk n:Nat),1≤n→∀ (c:UInt8) (t0:List UInt8),t0.length≤4611686018427387904→∀ (J:Nat→ByteArray→World→Prop) (Jx:World→Prop),bs≠bp∧bs≠bk →
  (∀ k s W,J k s W→W.cell? ⟨bs,0,none⟩=some (.string s)∧W.cell? ⟨bp,0,none⟩=some (.string ⟨#[c]⟩)∧W.cell? ⟨bk,0,none⟩=some (.int .i64 0)∧W.frozen? ⟨bs,0,none⟩=false) →
  (∀ k s s' W,J k s W→J k s' (W.setCell ⟨bs,0,none⟩ (.string s'))) →
  (∀ k s x W,J k s W→(splV c t0)[k]? = some x→YieldAt Fence.wide (n-1) P l #[.string (bsl x)] W fun e W'=>(e=.returned (.bool true)∧J (k+1) s W')∨(e=.returned (.bool false)∧Jx W')) →
  ∀ W,J 0 (bsl t0) W→CallsIn Fence.wide n P N #[.func (.yield l) #[] #[],.pointer (some ⟨bp,0,none⟩),.pointer (some ⟨bs,0,none⟩),.pointer (some ⟨bk,0,none⟩)] W fun e W'=>(∃ v,e=.returned v) ∧
   ((∃ s,J (splV c t0).length s W')∨Jx W')
structure Loose (Γ:Ctx) (h:Hp) (e:Env) (b:Nat) (v:Value):Prop where
 lo:Γ.B≤b
 no:¬ ownB h e b
 hp:∃ ty,e.w.heap[b]? = some (.cells #[v] ty (0,0))
 S:e.S b 0
theorem Loose.cell{Γ:Ctx}{h:Hp}{e:Env}{b:Nat}{v:Value}(k:Loose Γ h e b v):e.w.cell? ⟨b,0,none⟩=some v:=by
 obtain⟨ty,hb⟩:=k.hp
 exact Jb4 hb (by simp)
theorem Loose.frozen{Γ:Ctx}{h:Hp}{e:Env}{b:Nat}{v:Value}(k:Loose Γ h e b v):e.w.frozen? ⟨b,0,none⟩=false:=by
 obtain⟨ty,hb⟩:=k.hp
 simp[World.frozen?,hb]
theorem Loose.stays{Γ:Ctx}{h h2:Hp}{e e2:Env}{b:Nat}{v:Value}{ds:List Deferred}{rt:List (Option Nat×Option Value)}(k:Loose Γ h e b v)(hk:WInv (Γ.rb h e ds rt) h2 e2):Loose Γ h2 e2 b v:=by
 obtain⟨ty,hb⟩:=k.hp
 have hlt:=(Array.getElem?_eq_some_iff.1 hb).1
 refine⟨k.lo,fun ho=>?_,⟨ty,(hk.old b hlt k.no).trans hb⟩,hk.s0 b 0 k.S k.no⟩
 rcases (hk.own ho).1 with h1 | h1
 ·exact absurd hlt (Nat.not_lt.2 h1)
 ·exact k.no h1
theorem Loose.foreign{Γ:Ctx}{h:Hp}{e:Env}{b l:Nat}{v:Value}{o o':Obj}(k:Loose Γ h e b v)(hl:e.w.heap[l]? = some o)(ho:o.isCells=false):Loose Γ h { e with w:=e.w.putObj l o' } b v:=by
 obtain⟨ty,hb⟩:=k.hp
 have hne:b≠l:=fun he=>by subst he; rw[hl]at hb; cases hb; cases ho
 exact⟨k.lo,k.no,⟨ty,(World.putObj_heap_other hne).trans hb⟩,k.S⟩
theorem XN(w:World)(b i:Nat)(v:Value)(h:i≠b):(w.setCell ⟨b,0,none⟩ v).heap[i]? = w.heap[i]? := by
 simp[World.setCell,Array.getElem?_modify,Ne.symm h]
theorem Jer{w:World}{b:Nat}{u v:Value}{ty:TypeId}(h:w.heap[b]? = some (.cells #[u] ty (0,0))):(w.setCell ⟨b,0,none⟩ v).heap[b]? = some (.cells #[v] ty (0,0)):=by
 simp[World.setCell,Array.getElem?_modify,h]
theorem Loose.set{Γ:Ctx}{h:Hp}{e:Env}(hw:WInv Γ h e){b:Nat}{u:Value}(k:Loose Γ h e b u)(v:Value):
  WInv Γ h { e with w:=e.w.setCell ⟨b,0,none⟩ v }∧e.le { e with w:=e.w.setCell ⟨b,0,none⟩ v }∧Loose Γ h { e with w:=e.w.setCell ⟨b,0,none⟩ v } b v:=by
 obtain⟨ty,hb⟩:=k.hp
 have hoth:∀ i,i≠b→(e.w.setCell ⟨b,0,none⟩ v).heap[i]? = e.w.heap[i]? := fun i hi=>XN _ _ _ _ hi
 have hle:e.le { e with w:=e.w.setCell ⟨b,0,none⟩ v }:=⟨fun i o x hc hs=>by
  refine⟨?_,hs⟩
  have hne:i≠b:=fun he=>by
   subst he
   have ho:o=0:=by
    unfold World.cell? at hc
    rw[hb]at hc
    have:o<(#[u]:Array Value).size:=by
     have:=(Array.getElem?_eq_some_iff.1 (show(#[u]:Array Value)[o]? = some x by simpa using hc)).1
     exact this
    simpa using this
   subst ho
   exact hs k.S
  exact(World.cell?_of_block (hoth i hne)).trans hc,fun _ _ h=>h,fun _ _ h=>h⟩
 have hown:∀ i,ownB h e i→i≠b:=fun i hi he=>k.no (he ▸ hi)
 refine⟨?_,hle,⟨k.lo,k.no,⟨ty,Jer hb⟩,k.S⟩⟩
 constructor
 ·exact hw.g0
 ·exact hw.os
 ·exact hw.tape
 ·exact hw.output
 ·show Γ.w0.heap.size≤(e.w.setCell ⟨b,0,none⟩ v).heap.size
  rw[World.size_setCell]; exact hw.grown
 ·show Γ.B≤(e.w.setCell ⟨b,0,none⟩ v).heap.size
  rw[World.size_setCell]; exact hw.hB
 ·intro i hi hm
  exact(hoth i (by have:=k.lo; omega)).trans (hw.old i hi hm)
 ·intro i o hi
  show i<(e.w.setCell ⟨b,0,none⟩ v).heap.size
  rw[World.size_setCell]; exact hw.sdom i o hi
 ·exact hw.s0
 ·exact hw.s0B
 ·exact hw.keep.trans hle.keep
 ·intro n row hn
  rcases hw.box n row hn with hz | ⟨i,ob,h1,h2,h3,h4,h5⟩
  ·exact .inl hz
  exact .inr ⟨i,ob,h1,(hoth i (hown i (.inl ⟨n,by rw[hn]; simp,h1⟩))).trans h2,RO.mono hle h3,h4,h5⟩
 ·exact hw.inj
 ·intro j tj hk
  obtain⟨h0,u,h1,hor⟩:=hw.tok j tj hk
  by_cases hf:KX u
  ·exact⟨h0,u,h1,.inl hf⟩
  obtain⟨sz,n,xs,hsz,h2,h3,h4⟩:=hor.resolve_left hf
  have hsame:∀ i,u.ownBlock=some i→(e.w.setCell ⟨b,0,none⟩ v).heap[i]? = e.w.heap[i]? := fun i hi=>hoth i (hown i (.inr ⟨j,u,by rw[hk]; simp,h1,hi,hf⟩))
  refine⟨h0,u,h1,.inr ⟨sz,n,xs,hsz,⟨VO h2.1 hsame,h2.2⟩,fun i o hi ho hc=>?_,h4⟩⟩
  exact h3 i o hi ho (by rw[← World.cell?_of_block (hsame i hi)]; exact hc)
 ·exact hw.tokinj
 ·exact hw.fresh
 ·exact hw.nx0
 ·exact hw.rt
theorem Loose.other{Γ:Ctx}{h:Hp}{e:Env}{b i:Nat}{u v:Value}(k:Loose Γ h e i u)(hne:i≠b):Loose Γ h { e with w:=e.w.setCell ⟨b,0,none⟩ v } i u:=by
 obtain⟨ty,hb⟩:=k.hp
 exact⟨k.lo,k.no,⟨ty,(XN _ _ _ _ hne).trans hb⟩,k.S⟩
theorem JeH{Γ:Ctx}{h:Hp}{e:Env}(hw:WInv Γ h e)(hM:∀ b,¬ Γ.M b){n:Nat}{v:Value}(hn:h.H n=some [.d (.v v)]):∃ b,e.ρ n=some b∧Loose Γ { h with H:=upd h.H n none } e b v:=by
 obtain⟨b,cs,ty,h1,h2,h3,h4,h5⟩:∃ b cs ty,e.ρ n=some b∧e.w.heap[b]? = some (.cells cs ty (0,0))∧RB e n [.d (.v v)] cs.toList∧(∀ o,o<cs.size→e.S b o)∧(Γ.B≤b∨Γ.M b):=by
  rcases hw.box n _ hn with hz | ⟨b,ob,h1,h2⟩
  ·rcases hz.2 with⟨sz,hz,_⟩ | hz
   ·cases hz
   ·cases hz
  ·exact hw.boxAt h1 _ hn rfl
 have hc:=h3.plain rfl
 have hcs:cs=#[v]:=by
  cases hl:cs.toList with
  | nil=>rw[hl]at hc; exact hc.elim
  | cons x xs =>
   rw[hl]at hc
   cases xs with
   | cons y ys=>exact hc.2.elim
   | nil =>
    have:x=v:=R1.vInv hc.1
    subst this
    exact Array.ext' hl
 subst hcs
 refine⟨b,h1,⟨h5.resolve_right (hM b),fun ho=>?_,⟨ty,h2⟩,h4 0 (by simp)⟩⟩
 rcases ho with⟨m,hm,hρ⟩|⟨k,u,hk,hτ,hu,hf⟩
 ·simp only[upd]at hm
  by_cases hmn:m=n
  ·simp[hmn]at hm
  ·rw[if_neg hmn]at hm
   exact hmn (hw.inj m n b hm (by rw[hn]; simp) hρ h1)
 ·obtain⟨tk,htk⟩:=Option.ne_none_iff_exists'.1 hk
  obtain⟨_,u',h6,hor⟩:=hw.tok k tk htk
  rw[hτ]at h6; simp at h6; subst h6
  obtain⟨_,_,_,_,_,_,h7⟩:=hor.resolve_left hf
  exact h7 b hu n (by rw[hn]; simp) h1
def Z1(h:Hp)(p1 p2 p3:Nat):Hp:={ h with H:=upd (upd (upd h.H p1 none) p2 none) p3 none }
def RQ(t:Tab)(I:Nat→Hp→Prop)(Q2:Kt)(σ:Nat→AV)(k:Nat):Kt:=fun ex σ2 h2=>match ex with
 | .normal=>∃ σ3 h3,Wk t.rt σ2 h2 σ3 h3∧I (k+1) h3
 | .ret=>Q2 .ret σ h2
 | .exit id=>Q2 (.exit id) σ h2
 | _=>False
def nzA:AV→Bool
 | .c (.d _)=>true
 | .c (.pt n _)=>n != 0
 | .c (.os n _ _ _)=>n != 0
 | .c .top=>true
 | _=>false
theorem RA.nz{e e2:Env}(hk:Keep e.w e.S e2.w e2.S)(hr:∀ n,n≠0→(∀ b,e.ρ n=some b→e2.ρ n=some b)∧∀ b,e.τ n=some b→e2.τ n=some b):∀ {x:AV} {v:Value},nzA x=true→RA e x v→RA e2 x v:=by
 intro x v hz h
 unfold nzA at hz
 split at hz
 ·exact RD.mono hk h
 ·obtain⟨b,h1,h2⟩:=h
  exact⟨b,(hr _ (by simpa using hz)).1 _ h1,h2⟩
 ·rcases h with h | ⟨b,cap,h1,h2,h3⟩
  ·exact .inl h
  ·exact .inr ⟨b,cap,(hr _ (by simpa using hz)).1 _ h1,(hr _ (by simpa using hz)).2 _ h2,h3⟩
 ·trivial
 ·cases hz
theorem JfM{Γ:Ctx}{h:Hp}{e e2:Env}(hw:WInv Γ h e){m:Nat}(hm:h.nx=m+1)(hr:∀ i,i<m→e2.ρ (i+1)=e.ρ (i+1)∧e2.τ (i+1)=e.τ (i+1)):
  ∀ n,n≠0→(∀ b,e.ρ n=some b→e2.ρ n=some b)∧∀ b,e.τ n=some b→e2.τ n=some b:=by
 intro n hn
 obtain⟨i,rfl⟩:∃ i,n=i+1:=⟨n-1,by omega⟩
 by_cases hi:i<m
 ·rw[(hr i hi).1,(hr i hi).2]; exact⟨fun _ h=>h,fun _ h=>h⟩
 ·have:=(hw.fresh (i+1) (by omega)).2.2
  rw[this.1,this.2]
  exact⟨fun _ h=>(by cases h),fun _ h=>(by cases h)⟩
def Ve(e:Env)(m:Nat):List (Option Nat×Option Value):=(List.range m).map fun i=>(e.ρ (i+1),e.τ (i+1))
theorem JiH{e:Env}{m i:Nat}{x:Option Nat×Option Value}(h:(Ve e m)[i]? = some x):i<m∧x=(e.ρ (i+1),e.τ (i+1)):=by
 have hi:i<m:=by
  have:=(List.getElem?_eq_some_iff.1 h).1
  simpa [Ve] using this
 refine⟨hi,?_⟩
 simp[Ve,hi]at h
 exact h.symm
theorem Jfo(e:Env){m i:Nat}(h:i<m):(Ve e m)[i]? = some (e.ρ (i+1),e.τ (i+1)):=by simp[Ve,h]
theorem Jm.nz{nt:Nat}{ds:List Deferred}{σ σ1:Nat→AV}{a:Act}{e e2:Env}(hs:Jm nt ds σ a e)(hk:Keep e.w e.S e2.w e2.S)(hr:∀ n,n≠0→(∀ b,e.ρ n=some b→e2.ρ n=some b)∧∀ b,e.τ n=some b→e2.τ n=some b)
  (hσ:∀ i,i<nt→nzA (σ1 i)=true∧(σ1 i=σ i∨σ1 i=.c .top)) (hdf:dfL (σ1 DS)=[]) {ds':List Deferred}:Jm nt ds' σ1 { a with defers:=ds' } e2:=by
 refine⟨hs.1,⟨⟨[],rfl,by rw[hdf]; trivial⟩,hs.2.1.2⟩,fun i hi=>?_⟩
 obtain⟨h1,h2⟩:=hσ i hi
 rcases h2 with h2 | h2
 ·rw[h2]at h1 ⊢
  exact RA.nz hk hr h1 (hs.2.2 i hi)
 ·rw[h2]; trivial
theorem Jcr{α:Type}{f:Nat→Option α}{d n:Nat}(h:upd f d none n≠none):f n≠none:=by
 unfold upd at h
 split at h
 ·exact absurd rfl h
 ·exact h
theorem Jis{Γ:Ctx}{t:Tab}{pure:Nat→Nat}{m:Nat}(ht:TabOk t)(hP:t.P=Γ.P)(hroot:Γ.root=[])(hds:Γ.ds=[])(hM:∀ b,¬ Γ.M b)(hm:Γ.P.follows .mixedOrders=true)(hpure:∀ n,pure n=0→(t.Φ n).isSome)
  (hnp:∀ n,pure n=1→∀ g,t.G n g→∃ val bs ts,g.out=.ret val bs ts) (hlk:t.lk.contains 999999=true) (hrt:t.rt=m) {N:Nat} (hIt:Jd6 Γ.P N) {g:Operand} {pt:Tmp} {assign body:Code}
  (hca:KG pure t.lk Γ.nt assign=true) (hcb:KG pure t.lk Γ.nt body=true) (hda:Xd assign=true) (hdb:Xd body=true) (hpt:pt<Γ.nt) (hgt:∀ t,g=.tmp t→t<Γ.nt)
  {σ σ1:Nat→AV} {h:Hp} {a:Act} {e:Env} (hs:Jm Γ.nt Γ.ds σ a e) (hw:WInv Γ h e) {p1 p2 p3:Nat} (hg:evA σ g=.c (.clo N [p1,p2,p3])) (hdf:dfL (σ DS)=[]) (hdf1:dfL (σ1 DS)=[])
  (hσ:∀ i,i<Γ.nt→nzA (σ1 i)=true∧(σ1 i=σ i∨σ1 i=.c .top)) {c:UInt8} {t0:List UInt8}
  (h1:h.H p1=some [.d (.v (.string ⟨#[c]⟩))]) (h2:h.H p2=some [.d (.v (str t0))]) (h3:h.H p3=some [.d (.v (.int .i64 0))]) (hlen:t0.length≤4611686018427387904) (hne:p1≠p2∧p2≠p3∧p1≠p3) (hnx:h.nx=m+1)
  (Q2:Kt) (I:Nat→Hp→Prop) (h0:I 0 (Z1 h p1 p2 p3))
  (hI:∀ k x h',(splV c t0)[k]? = some x→I k h'→h'.Good→aC t assign (upd σ1 pt (.c (.d (.v (str x))))) h' (fun ex σ' h1=>ex=.normal∧aC t body σ' h1 (RQ t I Q2 σ1 k)))
  (hend:∀ h',I (splV c t0).length h'→Q2 .normal σ1 h') {Q':Exit→Act→World→Prop}
  (hQ:∀ ex h' e' r,Q2 ex σ1 h'→ex=.normal∨ex=.ret∨(∃ id,ex=.exit id)→Jm Γ.nt [{ target:=.collected r,args:=#[] }] σ1 { a with defers:=[{ target:=.collected r,args:=#[] }] } e'→WInv Γ h' e'→e'.w.heap[r]? = some (.deferred (some []))→Γ.B≤r →
   Q' ex { a with defers:=[{ target:=.collected r,args:=#[] }] } e'.w) :
  (Code.rangeFunc g #[pt] assign body).wp Γ.P Q' a e.w:=by
 refine(wpIn_wide (n:=9)).1 (wpIn_rangeFunc ?_)
 intro fn hfn
 obtain⟨vs,hvs,hav⟩:∃ vs,RP e [p1,p2,p3] vs∧a.eval g=.func (.func N) #[] vs.toArray:=by
  have:=Jem hs g hgt
  rw[hg]at this
  exact this
 have hd0:a.defers=[]:=RDf.nil hdf (hds ▸ hs.2.1.1)
 -- the three boxes are let go
 obtain⟨b1,r1,L1⟩:=JeH hw hM h1
 have w1:=hw.dropBox p1
 obtain⟨b2,r2,L2⟩:=JeH w1 hM (n:=p2) (v:=str t0) (by simp[upd,Ne.symm hne.1,h2])
 have w2:=w1.dropBox p2
 obtain⟨b3,r3,L3⟩:=JeH w2 hM (n:=p3) (v:=.int .i64 0) (by simp[upd,Ne.symm hne.2.1,Ne.symm hne.2.2,h3])
 have w3:WInv Γ (Z1 h p1 p2 p3) e:=w2.dropBox p3
 have sub:∀ {b:Nat} {h':Hp},(∀ n,(Z1 h p1 p2 p3).H n≠none→h'.H n≠none)→h'.T=h.T→¬ ownB h' e b→¬ ownB (Z1 h p1 p2 p3) e b:=fun hs hT hno ho=>hno (by
  rcases ho with⟨n,hn,hρ⟩|⟨k,v,hk,hh⟩
  ·exact .inl ⟨n,hs n hn,hρ⟩
  ·exact .inr ⟨k,v,by rw[hT]; exact hk,hh⟩)
 have M1:Loose Γ (Z1 h p1 p2 p3) e b1 (.string ⟨#[c]⟩):=⟨L1.lo,sub (h':={ h with H:=upd h.H p1 none }) (fun n hn=>Jcr (Jcr hn)) rfl L1.no,L1.hp,L1.S⟩
 have M2:Loose Γ (Z1 h p1 p2 p3) e b2 (str t0):=⟨L2.lo,sub (h':={ h with H:=upd (upd h.H p1 none) p2 none }) (fun n hn=>Jcr hn) rfl L2.no,L2.hp,L2.S⟩
 have M3:Loose Γ (Z1 h p1 p2 p3) e b3 (.int .i64 0):=⟨L3.lo,L3.no,L3.hp,L3.S⟩
 have bne:b2≠b1∧b2≠b3:=⟨fun hb=>hne.1 (hw.inj p1 p2 b1 (by rw[h1]; simp) (by rw[h2]; simp) r1 (hb ▸ r2)),fun hb=>hne.2.1 (hw.inj p2 p3 b2 (by rw[h2]; simp) (by rw[h3]; simp) r2 (hb ▸ r3))⟩
 have hvals:vs=[.pointer (some ⟨b1,0,none⟩),.pointer (some ⟨b2,0,none⟩),.pointer (some ⟨b3,0,none⟩)]:=by
  match vs,hvs with
  | [x,y,z],⟨⟨_,k1,k2⟩,⟨_,k3,k4⟩,⟨_,k5,k6⟩,_⟩ =>
   rw[r1]at k1; rw[r2]at k3; rw[r3]at k5
   cases k1; cases k3; cases k5
   rw[k2,k4,k6]
 subst hvals
 -- the record
 obtain⟨rec,hrec⟩:∃ rec:LoopState→Option Code→Loop,rec=fun st pe=>{ state:=st,pending:=pe,fn,tmps:=a.tmps,params:=#[pt],assign,body,defers:=e.w.heap.size }:=⟨_,rfl⟩
 obtain⟨l,hl⟩:∃ l,l=e.w.heap.size+1:=⟨_,rfl⟩
 obtain⟨r,hr⟩:∃ r,r=e.w.heap.size:=⟨_,rfl⟩
 obtain⟨W1,hW1⟩:∃ W1,(e.w.alloc (.deferred (some []))).alloc (.loop (rec .ready none))=W1:=⟨_,rfl⟩
 have hBr:Γ.B≤r:=by rw[hr]; exact hw.hB
 have hBl:Γ.B≤l:=by rw[hl]; have:=hw.hB; omega
 have hrl:r≠l:=by omega
 have hL1:W1.heap[l]? = some (.loop (rec .ready none)):=by
  rw[← hW1,hl]; have:=World.alloc_heap_new (e.w.alloc (.deferred (some []))) (.loop (rec .ready none)); rwa [World.size_alloc]at this
 have hK1:W1.heap[r]? = some (.deferred (some [])):=by
  rw[← hW1,hr]; exact(Below.heap_alloc _ _ _ (by simp)).trans (World.alloc_heap_new e.w _)
 have hgr:Grows e.w W1:=by rw[← hW1]; exact(Grows.alloc _ _).trans (Grows.alloc _ _)
 obtain⟨v3,l3⟩:=w3.quiet hgr
 have keepL:∀ {b:Nat} {v:Value},Loose Γ (Z1 h p1 p2 p3) e b v→Loose Γ (Z1 h p1 p2 p3) { e with w:=W1 } b v:=fun k=>by
  obtain⟨ty,hb⟩:=k.hp
  exact⟨k.lo,k.no,⟨ty,(hgr.block _ (Array.getElem?_eq_some_iff.1 hb).1).trans hb⟩,k.S⟩
 let Cm:Env→Hp→Prop:=fun e' h'=>WInv Γ h' e'∧Keep e.w e.S e'.w e'.S∧(∀ i,i<m→e'.ρ (i+1)=e.ρ (i+1)∧e'.τ (i+1)=e.τ (i+1))∧e'.w.heap[r]? = some (.deferred (some []))
 let J:Nat→ByteArray→World→Prop:=fun k s W=>∃ e' h',e'.w=W∧I k h'∧Cm e' h'∧m<h'.nx∧W.heap[l]? = some (.loop (rec .ready none))∧Loose Γ h' e' b1 (.string ⟨#[c]⟩)∧Loose Γ h' e' b2 (.string s)∧Loose Γ h' e' b3 (.int .i64 0)
 let Jx:World→Prop:=fun W=>∃ e' h' ex cc,e'.w=W∧Q2 ex σ1 h'∧((ex=.ret∧cc=Code.ret)∨∃ id,ex=.exit id∧cc=Code.exit id)∧Cm e' h'∧W.heap[l]? = some (.loop (rec .done (some cc)))
 have slots:∀ {e' h'},Cm e' h'→∀ ds',Jm Γ.nt ds' σ1 { a with defers:=ds' } e':=fun hc ds'=>hs.nz hc.2.1 (JfM hw hnx hc.2.2.1) hσ hdf1
 refine⟨l,[{ target:=.collected r,args:=#[] }],W1,{ target:=.fn (.func N) (List.toArray [.pointer (some ⟨b1,0,none⟩),.pointer (some ⟨b2,0,none⟩),.pointer (some ⟨b3,0,none⟩)]),args:=#[.func (.yield l) #[] #[]] },W1,N,
  #[.func (.yield l) #[] #[]]++List.toArray [.pointer (some ⟨b1,0,none⟩),.pointer (some ⟨b2,0,none⟩),.pointer (some ⟨b3,0,none⟩)],W1,?_,?_,fun _ _=>trivial,?_,nofun,?_⟩
 ·rw[← hW1,hrec,hl,hr]; exact run_enterLoop_outer _ _ _ _ _
 ·simp only[resolve,hav]
  simp[go_sem]
 ·simp[invoke,go_sem,hIt.1]
 ·refine(hIt.2 l b2 b1 b3 8 (by omega) c t0 hlen J Jx bne ?_ ?_ ?_ W1 ⟨_,_,rfl,h0,⟨v3,l3.keep,fun _ _=>⟨rfl,rfl⟩,hK1⟩,by show m<h.nx; omega,hL1,keepL M1,keepL M2,keepL M3⟩).mono ?_
  ·rintro k s _ ⟨e',h',rfl,_,_,_,_,q1,q2,q3⟩
   exact⟨q2.cell,q1.cell,q3.cell,q2.frozen⟩
  ·rintro k s s' _ ⟨e',h',rfl,hi,hc,hnx',hrc,q1,q2,q3⟩
   obtain⟨x1,x2,x3⟩:=q2.set hc.1 (.string s')
   have hlb:l≠b2:=fun hb=>by obtain⟨ty,hp⟩:=q2.hp; rw[← hb,hrc]at hp; cases hp
   have hrb:r≠b2:=fun hb=>by obtain⟨ty,hp⟩:=q2.hp; rw[← hb,hc.2.2.2]at hp; cases hp
   exact⟨_,h',rfl,hi,⟨x1,hc.2.1.trans x2.keep,hc.2.2.1,(XN _ _ _ _ hrb).trans hc.2.2.2⟩,hnx',(XN _ _ _ _ hlb).trans hrc,q1.other bne.1.symm,x3,q3.other bne.2.symm⟩
  ·rintro k s x _ ⟨e',h',rfl,hi,hc,hnx',hrc,q1,q2,q3⟩ hx
   have hxs:bsl x=⟨⟨x⟩⟩:=rfl
   have hy:=run_yield (P:=Γ.P) (args:=#[.string (bsl x)]) hrc (by rw[hrec]; rfl)
   have hlr:(rec .ready none).fn=fn∧(rec .ready none).assign=assign∧(rec .ready none).body=body∧(rec .ready none).tmps=a.tmps∧(rec .ready none).params=#[pt]∧(rec .ready none).state=.ready:=by rw[hrec]; exact⟨rfl,rfl,rfl,rfl,rfl,rfl⟩
   rw[hlr.1,hlr.2.1,hlr.2.2.1,hlr.2.2.2.1,hlr.2.2.2.2.1]at hy
   refine⟨fn,_,assign,body,hy,roundIn_of_wpIn trivial ?_⟩
   -- from here on
   have hrt':(Ve e m).length<h'.nx∧∀ i x,(Ve e m)[i]? = some x→e'.ρ (i+1)=x.1∧e'.τ (i+1)=x.2:=⟨by simpa [Ve] using hnx',fun i x hx=>by
    obtain⟨him,rfl⟩:=JiH hx
    exact hc.2.2.1 i him⟩
   have v1:=hc.1.rb [] hrt'
   have hpD:some pt≠some DS:=fun hh=>by
    cases hh
    exact absurd hpt (Nat.not_lt.2 hs.2.1.2)
   have s1:Jm Γ.nt [] (upd σ1 pt (.c (.d (.v (str x))))) { tmps:=((#[pt]:Array Tmp).zip #[.string (bsl x)]).foldl (fun tmps (t,a)=>tmps.setIfInBounds t a) a.tmps,defers:=[] } e':=by
    have:=(slots hc []).put (some pt) hpD (x:=.c (.d (.v (str x)))) (v:=.string (bsl x)) (RD.v _)
    simpa [putA,Act.put] using this
   have hlen1:(Ve e m).length=t.rt:=by rw[hrt]; simp[Ve]
   refine ZI (Γ:=Γ.rb h' e' [] (Ve e m)) (l:=l) ht hP hlen1 hm hpure hnp hlk assign _ _ hca hda (fun ex σ' h4 a4 e4 hk hs4 hw4=>?_) _ h' _ e' (hI k x h' hx hi hc.1.good) s1 v1
   obtain⟨rfl,hk⟩:=hk
   have hl4:=hc.1.stays hw4 hrc (fun _ _ _ h=>by cases h)
   have hr4:=hc.1.stays hw4 hc.2.2.2 (fun _ _ _ h=>by cases h)
   have u4:=hc.1.unrb hroot hw4
   obtain⟨f1,f2⟩:=u4.foreign (o':=.loop { rec .ready none with state:=.busy }) hl4 rfl rfl hBl
   have root4:∀ i,i<m→e4.ρ (i+1)=e.ρ (i+1)∧e4.τ (i+1)=e.τ (i+1):=fun i hi=>hw4.rt.2 i _ (Jfo e hi)
   have hlt4:l<e4.w.heap.size:=(Array.getElem?_eq_some_iff.1 hl4).1
   refine⟨_,run_beginRound hl4 hlr.2.2.2.2.2,?_⟩
   have keep4:Keep e.w e.S e4.w e4.S:=hc.2.1.trans hw4.keep
   have m1:=(q1.stays hw4).foreign (o':=.loop { rec .ready none with state:=.busy }) hl4 rfl
   have m2:=(q2.stays hw4).foreign (o':=.loop { rec .ready none with state:=.busy }) hl4 rfl
   have m3:=(q3.stays hw4).foreign (o':=.loop { rec .ready none with state:=.busy }) hl4 rfl
   have hlb:(e4.w.putObj l (.loop { rec .ready none with state:=.busy })).heap[l]? = some (.loop { rec .ready none with state:=.busy }):=World.putObj_heap_same hlt4
   have hrb:(e4.w.putObj l (.loop { rec .ready none with state:=.busy })).heap[r]? = some (.deferred (some [])):=(World.putObj_heap_other hrl).trans hr4
   have hrt4:(Ve e m).length<h4.nx∧∀ i x,(Ve e m)[i]? = some x→e4.ρ (i+1)=x.1∧e4.τ (i+1)=x.2:=hw4.rt
   have v2:=f1.rb [] hrt4
   have fin:∀ (jump:Option Code) (h6:Hp) (e6:Env),WInv (Γ.rb h4 { e4 with w:=e4.w.putObj l (.loop { rec .ready none with state:=.busy }) } [] (Ve e m)) h6 e6 →
     ∃ w6,(Instr.endRound l jump).run Γ.P e6.w=.ok (.bool jump.isNone) w6∧Cm { e6 with w:=w6 } h6∧m<h6.nx∧w6.heap[l]? = some (.loop (rec (if jump.isNone then .ready else .done) jump)) ∧
      Loose Γ h6 { e6 with w:=w6 } b1 (.string ⟨#[c]⟩)∧Loose Γ h6 { e6 with w:=w6 } b2 (.string s)∧Loose Γ h6 { e6 with w:=w6 } b3 (.int .i64 0):=fun jump h6 e6 hw6=>by
    have hl6:=f1.stays hw6 hlb (fun _ _ _ h=>by cases h)
    have hr6:=f1.stays hw6 hrb (fun _ _ _ h=>by cases h)
    have u6:=f1.unrb hroot hw6
    have hrun:=run_endRound (P:=Γ.P) jump hl6
    have hrc6:({ { rec .ready none with state:=.busy } with state:=if jump.isNone then LoopState.ready else .done,pending:=jump }:Loop)=rec (if jump.isNone then .ready else .done) jump:=by rw[hrec]
    rw[hrc6]at hrun
    obtain⟨g1,g2⟩:=u6.foreign (o':=.loop (rec (if jump.isNone then .ready else .done) jump)) hl6 rfl rfl hBl
    refine⟨_,hrun,⟨g1,(keep4.trans f2.keep).trans (hw6.keep.trans g2.keep),fun i hi=>hw6.rt.2 i _ (Jfo e hi),(World.putObj_heap_other hrl).trans hr6⟩,?_,World.putObj_heap_same (Array.getElem?_eq_some_iff.1 hl6).1,(m1.stays hw6).foreign hl6 rfl,(m2.stays hw6).foreign hl6 rfl,(m3.stays hw6).foreign hl6 rfl⟩
    have:=hw6.rt.1
    have h7:(Ve e m).length=m:=by simp[Ve]
    have h8:(Ve e m).length<h6.nx:=this
    omega
   refine ZI (Γ:=Γ.rb h4 { e4 with w:=e4.w.putObj l (.loop { rec .ready none with state:=.busy }) } [] (Ve e m)) (l:=l) ht hP hlen1 hm hpure hnp hlk body _ _ hcb hdb (fun ex σ5 h5 a5 e5 hk5 hs5 hw5=>?_) σ' h4 a4 _ hk (hs4.mono f2) v2
   cases ex with
   | normal =>
    obtain⟨σ6,h6,hwk,hi6⟩:=hk5
    obtain⟨e6,he6,hs6,hw6⟩:=hwk _ a5 e5 hlen1 hs5 hw5
    obtain⟨w6,x1,x2,x3,x4,x5,x6,x7⟩:=fin none h6 e6 hw6
    rw[← he6]
    exact⟨_,w6,x1,.inl ⟨rfl,_,h6,rfl,hi6,x2,x3,x4,x5,x6,x7⟩⟩
   | ret =>
    obtain⟨w6,x1,x2,x3,x4,_⟩:=fin (some .ret) h5 e5 hw5
    exact⟨_,w6,x1,.inr ⟨rfl,_,h5,.ret,.ret,rfl,hk5,.inl ⟨rfl,rfl⟩,x2,x4⟩⟩
   | exit id =>
    obtain⟨w6,x1,x2,x3,x4,_⟩:=fin (some (.exit id)) h5 e5 hw5
    exact⟨_,w6,x1,.inr ⟨rfl,_,h5,.exit id,.exit id,rfl,hk5,.inr ⟨id,rfl,rfl⟩,x2,x4⟩⟩
   | goto l=>exact hk5.elim
   | panic ch=>exact hk5.elim
   | outgrown=>exact hk5.elim
  ·rintro en W2 ⟨⟨v,rfl⟩,(⟨s,e',h',rfl,hi,hc,_,hrc,_⟩|⟨e',h',ex,cc,rfl,hq,hcc,hc,hrc⟩)⟩
   ·have hel:=run_endLoop (P:=Γ.P) hrc (by rw[hrec]; simp)
    obtain⟨y1,y2⟩:=hc.1.foreign (o':=.loop { rec .ready none with state:=.exhausted }) hrc rfl rfl hBl
    have hc2:Cm { e' with w:=e'.w.putObj l (.loop { rec .ready none with state:=.exhausted }) } h':=⟨y1,hc.2.1.trans y2.keep,hc.2.2.1,(World.putObj_heap_other hrl).trans hc.2.2.2⟩
    refine⟨none,e'.w.putObj l (.loop { rec .ready none with state:=.exhausted }),hel.trans (congrArg (fun j=>Result.ok j _) (show(rec .ready none).pending=none from by rw[hrec])),?_⟩
    rw[hd0]
    exact hQ .normal h' _ r (hend h' hi) (.inl rfl) (slots hc2 _) hc2.1 hc2.2.2.2 hBr
   ·have hel:=run_endLoop (P:=Γ.P) hrc (by rw[hrec]; simp)
    obtain⟨y1,y2⟩:=hc.1.foreign (o':=.loop { rec .done (some cc) with state:=.exhausted }) hrc rfl rfl hBl
    have hc2:Cm { e' with w:=e'.w.putObj l (.loop { rec .done (some cc) with state:=.exhausted }) } h':=⟨y1,hc.2.1.trans y2.keep,hc.2.2.1,(World.putObj_heap_other hrl).trans hc.2.2.2⟩
    refine⟨some cc,e'.w.putObj l (.loop { rec .done (some cc) with state:=.exhausted }),hel.trans (congrArg (fun j=>Result.ok j _) (show(rec .done (some cc)).pending=some cc from by rw[hrec])),?_⟩
    rw[hd0]
    rcases hcc with⟨rfl,rfl⟩|⟨id,rfl,rfl⟩
    ·exact wpIn_ret (hQ .ret h' _ r hq (.inr (.inl rfl)) (slots hc2 _) hc2.1 hc2.2.2.2 hBr)
    ·exact wpIn_exit (hQ (.exit id) h' _ r hq (.inr (.inr ⟨id,rfl⟩)) (slots hc2 _) hc2.1 hc2.2.2.2 hBr)
theorem TabOk.root{t:Tab}(ht:TabOk t)(m:Nat):TabOk { t with rt:=m }:=⟨ht.pf,ht.mf,ht.gf,ht.df⟩
def Jbk:Code→Bool
 | .seq a b=>Jbk a || Jbk b
 | .block _ b=>Jbk b
 | .rangeFunc _ _ _ _=>true
 | _=>false
def Jaz(pure:Nat→Nat)(lk:List Nat)(nt:Nat):Code→Bool
 | .seq a b=>if Jbk a=true then Jaz pure lk nt a && KG pure lk nt b else KG pure lk nt a && Jaz pure lk nt b
 | .block _ b=>Jaz pure lk nt b
 | .rangeFunc g ps assign body=>KG pure lk nt assign && KG pure lk nt body && Xd assign && Xd body && (match g with | .tmp t=>decide (t<nt) | _=>true) && ps.toList.all fun p=>decide (p<nt)
 | c=>KG pure lk nt c
def aRF(t:Tab)(nt:Nat)(g:Operand)(ps:Array Tmp)(assign body:Code)(σ:Nat→AV)(h:Hp)(Q2:Kt):Prop :=
 ∃ σ' h',Wk t.rt σ h σ' h'∧∃ (N m p1 p2 p3:Nat) (c:UInt8) (t0:List UInt8) (σ1:Nat→AV) (I:Nat→Hp→Prop) (pt:Tmp),ps=#[pt]∧Jd6 t.P N∧evA σ' g=.c (.clo N [p1,p2,p3])∧dfL (σ' DS)=[]∧dfL (σ1 DS)=[] ∧
  (∀ i,i<nt→nzA (σ1 i)=true∧(σ1 i=σ' i∨σ1 i=.c .top))∧h'.H p1=some [.d (.v (.string ⟨#[c]⟩))]∧h'.H p2=some [.d (.v (str t0))]∧h'.H p3=some [.d (.v (.int .i64 0))]∧t0.length≤4611686018427387904 ∧
  (p1≠p2∧p2≠p3∧p1≠p3)∧h'.nx=m+1∧I 0 (Z1 h' p1 p2 p3) ∧
  (∀ k x h'',(splV c t0)[k]? = some x→I k h''→h''.Good→aC { t with rt:=m } assign (upd σ1 pt (.c (.d (.v (str x))))) h'' (fun ex σ2 h2=>ex=.normal∧aC { t with rt:=m } body σ2 h2 (RQ { t with rt:=m } I Q2 σ1 k))) ∧
  ∀ h'',I (splV c t0).length h''→Q2 .normal σ1 h''
def aL(t:Tab)(nt:Nat):Code→(Nat→AV)→Hp→Kt→Kt→Prop
 | .seq a b,σ,h,Q1,Q2=>if Jbk a=true then aL t nt a σ h (fun ex σ' h'=>match ex with | .normal=>False | ex=>Q1 ex σ' h') (fun ex σ' h'=>match ex with | .normal=>∃ σ2 h2,Wk t.rt σ' h' σ2 h2∧Given h2.Good (aC t b σ2 h2 Q2) | ex=>Q2 ex σ' h')
   else aC t a σ h (fun ex σ' h'=>match ex with | .normal=>∃ σ2 h2,Wk t.rt σ' h' σ2 h2∧Given h2.Good (aL t nt b σ2 h2 Q1 Q2) | ex=>Q1 ex σ' h')
 | .block id b,σ,h,Q1,Q2=>aL t nt b σ h (fun ex σ' h'=>match ex with | .exit j=>if j=id then Q1 .normal σ' h' else Q1 (.exit j) σ' h' | ex=>Q1 ex σ' h') (fun ex σ' h'=>match ex with | .exit j=>if j=id then Q2 .normal σ' h' else Q2 (.exit j) σ' h' | ex=>Q2 ex σ' h')
 | .rangeFunc g ps assign body,σ,h,_,Q2=>aRF t nt g ps assign body σ h Q2
 | _,_,_,_,_=>False
abbrev mk1(r:Nat):List Deferred:=[{ target:=.collected r,args:=#[] }]
theorem Jc7{Γ:Ctx}{t:Tab}{pure:Nat→Nat}(ht:TabOk t)(hP:t.P=Γ.P)(hroot:Γ.root=[])(hds:Γ.ds=[])(hrt:t.rt=0)(hM:∀ b,¬ Γ.M b)(hm:Γ.P.follows .mixedOrders=true)(hpure:∀ n,pure n=0→(t.Φ n).isSome)
  (hnp:∀ n,pure n=1→∀ g,t.G n g→∃ val bs ts,g.out=.ret val bs ts) (hlk:t.lk.contains 999999=true) :
  ∀ (c:Code) (Q1 Q2:Kt) (Q':Exit→Act→World→Prop),Jaz pure t.lk Γ.nt c=true →
   (∀ ex σ h a e,Q1 ex σ h→Jm Γ.nt [] σ a e→WInv Γ h e→Q' ex a e.w) →
   (∀ ex σ h a e r,Q2 ex σ h→Jm Γ.nt (mk1 r) σ a e→WInv Γ h e→e.w.heap[r]? = some (.deferred (some []))→Γ.B≤r→Q' ex a e.w) →
   ∀ (σ:Nat→AV) (h:Hp) (a:Act) (e:Env),aL t Γ.nt c σ h Q1 Q2→Jm Γ.nt [] σ a e→WInv Γ h e→c.wp Γ.P Q' a e.w
 | .seq x y,Q1,Q2,Q',hc,h1,h2,σ,h,a,e,hh,hs,hw=>by
  simp only[Jaz]at hc
  simp only[aL]at hh
  by_cases hx:Jbk x=true
  ·rw[if_pos hx]at hh hc
   rw[Bool.and_eq_true]at hc
   refine wp_seq (Jc7 ht hP hroot hds hrt hM hm hpure hnp hlk x _ _ _ hc.1 (fun ex σ h a e hk hs hw=>?_) (fun ex σ h a e r hk hs hw hr hB=>?_) σ h a e hh hs hw)
   ·cases ex with
    | normal=>exact hk.elim
    | exit id=>exact h1 _ _ _ _ _ hk hs hw
    | goto l=>exact h1 _ _ _ _ _ hk hs hw
    | ret=>exact h1 _ _ _ _ _ hk hs hw
    | panic ch=>exact h1 _ _ _ _ _ hk hs hw
    | outgrown=>exact h1 _ _ _ _ _ hk hs hw
   ·cases ex with
    | normal =>
     obtain⟨σ2,h2',hwk,hk⟩:=hk
     have v0:=hw.rb (mk1 r) (rt:=[]) ⟨hw.nx0,fun i x hx=>by cases hx⟩
     obtain⟨e2,he,hs2,hw2⟩:=hwk (Γ.rb h e (mk1 r) []) a e hrt.symm hs v0
     have he:e2.w=e.w:=he
     rw[← he]
     refine XQ (Γ:=Γ.rb h e (mk1 r) []) ht hP hrt.symm hm hpure hnp y Q2 Q' hc.2 (fun ex σ3 h3 a3 e3 hk3 hs3 hw3=>?_) σ2 h2' a e2 (hk.get hw2.good) hs2 hw2
     exact h2 ex σ3 h3 a3 e3 r hk3 hs3 (hw.unrb hroot hw3) (hw.stays hw3 hr (fun _ _ _ h=>by cases h)) hB
    | exit id=>exact h2 _ _ _ _ _ _ hk hs hw hr hB
    | goto l=>exact h2 _ _ _ _ _ _ hk hs hw hr hB
    | ret=>exact h2 _ _ _ _ _ _ hk hs hw hr hB
    | panic ch=>exact h2 _ _ _ _ _ _ hk hs hw hr hB
    | outgrown=>exact h2 _ _ _ _ _ _ hk hs hw hr hB
  ·rw[if_neg hx]at hh hc
   rw[Bool.and_eq_true]at hc
   refine wp_seq (XQ ht hP (by rw[hroot,hrt]; rfl) hm hpure hnp x _ _ hc.1 (fun ex σ h a e hk hs hw=>?_) σ h a e hh (by rw[hds]; exact hs) hw)
   rw[hds]at hs
   cases ex with
   | normal =>
    obtain⟨σ2,h2',hwk,hk⟩:=hk
    obtain⟨e2,he,hs2,hw2⟩:=hwk Γ a e (by rw[hroot,hrt]; rfl) (by rw[hds]; exact hs) hw
    rw[hds]at hs2
    rw[← he]
    exact Jc7 ht hP hroot hds hrt hM hm hpure hnp hlk y Q1 Q2 Q' hc.2 h1 h2 σ2 h2' a e2 (hk.get hw2.good) hs2 hw2
   | exit id=>exact h1 _ _ _ _ _ hk hs hw
   | goto l=>exact h1 _ _ _ _ _ hk hs hw
   | ret=>exact h1 _ _ _ _ _ hk hs hw
   | panic ch=>exact h1 _ _ _ _ _ hk hs hw
   | outgrown=>exact h1 _ _ _ _ _ hk hs hw
 | .block id b,Q1,Q2,Q',hc,h1,h2,σ,h,a,e,hh,hs,hw=>by
  refine wp_block (Jc7 ht hP hroot hds hrt hM hm hpure hnp hlk b _ _ _ hc (fun ex σ h a e hk hs hw=>?_) (fun ex σ h a e r hk hs hw hr hB=>?_) σ h a e hh hs hw)
  ·cases ex with
   | exit j =>
    simp only[Exit.inBlock]
    simp only at hk
    split at hk
    ·rename_i hj; rw[if_pos hj]; exact h1 _ _ _ _ _ hk hs hw
    ·rename_i hj; rw[if_neg hj]; exact h1 _ _ _ _ _ hk hs hw
   | normal=>exact h1 _ _ _ _ _ hk hs hw
   | goto l=>exact h1 _ _ _ _ _ hk hs hw
   | ret=>exact h1 _ _ _ _ _ hk hs hw
   | panic ch=>exact h1 _ _ _ _ _ hk hs hw
   | outgrown=>exact h1 _ _ _ _ _ hk hs hw
  ·cases ex with
   | exit j =>
    simp only[Exit.inBlock]
    simp only at hk
    split at hk
    ·rename_i hj; rw[if_pos hj]; exact h2 _ _ _ _ _ _ hk hs hw hr hB
    ·rename_i hj; rw[if_neg hj]; exact h2 _ _ _ _ _ _ hk hs hw hr hB
   | normal=>exact h2 _ _ _ _ _ _ hk hs hw hr hB
   | goto l=>exact h2 _ _ _ _ _ _ hk hs hw hr hB
   | ret=>exact h2 _ _ _ _ _ _ hk hs hw hr hB
   | panic ch=>exact h2 _ _ _ _ _ _ hk hs hw hr hB
   | outgrown=>exact h2 _ _ _ _ _ _ hk hs hw hr hB
 | .rangeFunc g ps assign body,Q1,Q2,Q',hc,h1,h2,σ,h,a,e,hh,hs,hw=>by
  obtain⟨σ',h',hwk,N,m,p1,p2,p3,c,t0,σ1,I,pt,rfl,hit,hg,hdf,hdf1,hσ,k1,k2,k3,hlen,hne,hnx,h0,hI,hend⟩:=hh
  obtain⟨e2,he,hs2,hw2⟩:=hwk Γ a e (by rw[hroot,hrt]; rfl) (by rw[hds]; exact hs) hw
  rw[← he]
  simp only[Jaz,Bool.and_eq_true]at hc
  refine Jis (t:={ t with rt:=m }) (ht.root m) hP hroot hds hM hm hpure hnp hlk rfl (hP ▸ hit) hc.1.1.1.1.1 hc.1.1.1.1.2 hc.1.1.1.2 hc.1.1.2 (by simpa using hc.2) (fun t ht=>by subst ht; simpa using hc.1.2) hs2 hw2 hg hdf hdf1 hσ k1 k2 k3 hlen hne hnx Q2 I h0 hI hend (fun ex h'' e' r hq _ hs3 hw3 hr hB=>?_)
  exact h2 ex σ1 h'' _ e' r hq hs3 hw3 hr hB
 | .skip,_,_,_,_,_,_,_,_,_,_,hh,_,_=>hh.elim
 | .region _ _ _,_,_,_,_,_,_,_,_,_,_,hh,_,_=>hh.elim
 | .cond _ _ _,_,_,_,_,_,_,_,_,_,_,hh,_,_=>hh.elim
 | .loop _,_,_,_,_,_,_,_,_,_,_,hh,_,_=>hh.elim
 | .exit _,_,_,_,_,_,_,_,_,_,_,hh,_,_=>hh.elim
 | .ret,_,_,_,_,_,_,_,_,_,_,hh,_,_=>hh.elim
 | .scope _,_,_,_,_,_,_,_,_,_,_,hh,_,_=>hh.elim
 | .label _,_,_,_,_,_,_,_,_,_,_,hh,_,_=>hh.elim
 | .goto _,_,_,_,_,_,_,_,_,_,_,hh,_,_=>hh.elim
 | .refuse _,_,_,_,_,_,_,_,_,_,_,hh,_,_=>hh.elim
theorem JjJ{t:Tab}{pure:Nat→Nat}(ht:TabOk t)(hm:t.P.follows .mixedOrders=true)(hpure:∀ n,pure n=0→(t.Φ n).isSome)(hnp:∀ n,pure n=1→∀ g,t.G n g→∃ val bs ts,g.out=.ret val bs ts)(hlk:t.lk.contains 999999=true){f:Nat}{fn:Func}{c:Code}(hf:t.P.funcs[f]? = some fn)(hb:fn.body=some c)
  (hcode:(Jaz pure t.lk fn.ntmps c && fn.results.toList.all (VW fn.ntmps) && fn.ntmps.ble DS)=true) (pf:PF)
  (h:∀ args,pf.pre args→args.length≤fn.ntmps∧t.rt=0∧∃ σ h,Wk t.rt (sig0 (args.map fun d=>.c (.d d))) hp0 σ h∧(h.Good→aL t fn.ntmps c σ h (JaZ t.P t.rt fn (pf.val args)) (JaZ t.P t.rt fn (pf.val args)))):J7 t.P f pf:=by
 simp only[Bool.and_eq_true]at hcode
 intro w S args vs hG hargs hS hp
 obtain⟨hn,hrt,σ1,h1,hwk,hC⟩:=h args hp
 have hlen:=hargs.length
 refine callsIn_wide.1 (callsIn_of_wp_marks (n:=9) hf hb trivial (wpIn_wide.2 ?_) rfl)
 let Γ:Ctx:=⟨t.P,w,w.heap.size,S,fun _=>False,fn.ntmps,[],[]⟩
 let e:Env:=⟨w,S,fun _=>none,fun _=>none⟩
 have hw:WInv Γ hp0 e:=by
  constructor
  ·exact⟨hG,fun q hq=>⟨let ⟨_,_,h1,_⟩:=hG q hq; (Array.getElem?_eq_some_iff.1 h1).1,fun h=>h⟩⟩
  ·rfl
  ·rfl
  ·rfl
  ·exact Nat.le_refl _
  ·exact Nat.le_refl _
  ·intro b _ _; rfl
  ·exact hS
  ·intro b o h _; exact h
  ·exact hS
  ·exact Keep.refl _ _
  ·intro n row h; cases h
  ·intro n m b h; exact absurd rfl h
  ·intro k ty h; cases h
  ·intro k m v u b h; exact absurd rfl h
  ·intro n _; exact⟨rfl,rfl,rfl,rfl⟩
  ·exact Nat.one_pos
  ·exact⟨Nat.one_pos,fun i x hx=>by simp[Γ]at hx⟩
 have hs:Jm Γ.nt Γ.ds (sig0 (args.map fun d=>.c (.d d))) { tmps:=(⟨vs⟩:Array Value)++Array.replicate (fn.ntmps-(⟨vs⟩:Array Value).size) undef,defers:=[] } e:=by
  refine⟨by simp[hlen,Γ]; omega,⟨⟨[],rfl,by rw[JfQ (by simp; have:=Nat.le_of_ble_eq_true hcode.2; omega)]; trivial⟩,Nat.le_of_ble_eq_true hcode.2⟩,fun i hi=>?_⟩
  rcases Nat.lt_or_ge i args.length with hlt | hge
  ·obtain⟨v,h1,h2⟩:=hargs.get i args[i] (List.getElem?_eq_getElem hlt)
   have e1:sig0 (args.map fun d=>AV.c (.d d)) i=.c (.d args[i]):=by simp[sig0,hlt]
   have e2:((⟨vs⟩:Array Value)++Array.replicate (fn.ntmps-(⟨vs⟩:Array Value).size) undef).getD i undef=v:=by
    have hiv:i<vs.length:=by omega
    simp only[Array.getD_eq_getD_getElem?]
    rw[Array.getElem?_append_left (by simpa using hiv)]
    simp[h1]
   rw[e1,e2]
   exact h2
  ·have e1:sig0 (args.map fun d=>AV.c (.d d)) i=KP:=by simp[sig0,hge]
   have e2:((⟨vs⟩:Array Value)++Array.replicate (fn.ntmps-(⟨vs⟩:Array Value).size) undef).getD i undef=undef:=by
    simp only[Array.getD_eq_getD_getElem?]
    rw[Array.getElem?_append_right (by simp; omega),Array.getElem?_replicate]
    split <;> rfl
   rw[e1,e2]
   exact RA.undef e
 obtain⟨e1,he1,hs1,hw1⟩:=hwk Γ _ e hrt.symm hs hw
 have he1':e1.w=w:=he1
 suffices hsuf:∀ w1,w1=e1.w→c.wp t.P (bodyPostM Fence.wide 9 t.P fn (fun en w'=>∃ v,en=Ending.returned v∧Grows w w'∧R1 w' S (pf.val args) v)) { tmps:=(⟨vs⟩:Array Value)++Array.replicate (fn.ntmps-(⟨vs⟩:Array Value).size) undef,defers:=[] } w1 from hsuf w he1'.symm
 rintro _ rfl
 have fin:∀ {σ h a e' ds},Jm Γ.nt ds σ a e'→WInv Γ h e'→aRet t.P fn.results.toList σ h (pf.val args)→∃ v,(results fn a.tmps).run t.P e'.w=.ok v e'.w∧∃ v',Ending.returned v=.returned v'∧Grows w e'.w∧R1 e'.w S (pf.val args) v':=fun {σ h a e' ds} hs' hw' hr=>by
  have hs2:Jm { Γ with ds:=ds }.nt { Γ with ds:=ds }.ds σ a e':=hs'
  have hw2:WInv { Γ with ds:=ds } h e':=hw'.reCtx rfl rfl rfl rfl rfl rfl
  obtain⟨v,h1,h2⟩:=Jdp (Γ:={ Γ with ds:=ds }) hs2 hw2 hcode.1.2 hr
  refine⟨v,h1,v,rfl,⟨hw'.os,hw'.tape,hw'.output,hw'.grown,fun k hk=>hw'.old k hk (fun h=>h.elim)⟩,RD.mono (fun b o x hc hS'=>⟨hc,fun h=>hS' (hw'.s0 b o h (fun h=>h.elim))⟩) h2⟩
 refine Jc7 (Γ:=Γ) (t:=t) (pure:=pure) ht rfl rfl rfl hrt (fun _ h=>h) hm hpure hnp hlk c _ _ _ hcode.1.1 (fun ex σ h a e2 hk hs2 hw2=>?_) (fun ex σ h a e2 r hk hs2 hw2 hr hB=>?_) _ _ _ e1 (hC hw1.good) hs1 hw1
 ·obtain⟨σ,h,hwk,hk⟩:=hk
  obtain⟨e',he',hs',hw'⟩:=hwk Γ a e2 hrt.symm hs2 hw2
  rw[← he']
  have key:aRet t.P fn.results.toList σ h (pf.val args)∧dfL (σ DS)=[]→LeavesInM Fence.wide 9 t.P fn a.tmps (fun en w'=>∃ v,en=Ending.returned v∧Grows w w'∧R1 w' S (pf.val args) v) a.defers .returning e'.w:=fun hr=>by
   rw[RDf.nil hr.2 hs'.2.1.1]
   exact fin hs' hw' hr.1
  cases ex with
  | normal=>exact key hk
  | ret=>exact key hk
  | exit id=>exact hk.elim
  | goto l=>exact hk.elim
  | panic ch=>exact hk.elim
  | outgrown=>exact hk.elim
 ·obtain⟨σ,h,hwk,hk⟩:=hk
  obtain⟨e',he',hs',hw'⟩:=hwk { Γ with ds:=mk1 r } a e2 hrt.symm hs2 (hw2.reCtx rfl rfl rfl rfl rfl rfl)
  have hw':WInv Γ h e':=hw'.reCtx rfl rfl rfl rfl rfl rfl
  rw[← he']at hr ⊢
  have key:aRet t.P fn.results.toList σ h (pf.val args)∧dfL (σ DS)=[]→LeavesInM Fence.wide 9 t.P fn a.tmps (fun en w'=>∃ v,en=Ending.returned v∧Grows w w'∧R1 w' S (pf.val args) v) a.defers .returning e'.w:=fun hret=>by
   obtain⟨q,hq,hq2⟩:=hs'.2.1.1
   rw[hret.2]at hq2
   have hd:a.defers=mk1 r:=by
    cases q with
    | nil=>simpa using hq
    | cons _ _=>exact hq2.elim
   rw[hd]
   obtain⟨f1,f2⟩:=hw'.foreign (o':=.deferred none) hr rfl rfl hB
   exact⟨by simp,.inl ⟨r,_,rfl,run_takeDeferred hr,fin (hs'.mono f2) f1 hret.1⟩⟩
  cases ex with
  | normal=>exact key hk
  | ret=>exact key hk
  | exit id=>exact hk.elim
  | goto l=>exact hk.elim
  | panic ch=>exact hk.elim
  | outgrown=>exact hk.elim
end Go.Proofs.YtfkhlbhjhdpkoaaDoor
