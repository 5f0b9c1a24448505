/- Regions in whatever order: one walk in the text's order serves every order. -/
import Derived.Test.YtaofbminodhcnaaZcac
import Derived.Deep.LoopGhost
import Derived.Recover
set_option linter.unusedVariables false
set_option linter.unusedSimpArgs false
namespace Go.Proofs.Ytaofbminodhcnaa
open Go.RowKit
theorem Jkb{P:Program}{σ σ':Nat→AV}{t:TypeId}:∀ (l:List (Nat×Operand)) (row:List C),(∀ p∈l,evA σ p.2=evA σ' p.2)→Jec P σ t row l=Jec P σ' t row l
 | [],_,_=>rfl
 | (i,x)::l,row,h=>by
  have h0:=h (i,x) (by simp)
  simp only at h0
  simp only[Jec,h0]
  rw[Jkb l _ (fun p hp=>h p (by simp[hp]))]
theorem JfP{σ σ':Nat→AV}{d:Int}{x:Option Operand}(h:∀ y,x=some y→evA σ y=evA σ' y):bnd σ d x=bnd σ' d x:=by
 cases x with
 | none=>rfl
 | some y=>simp only[bnd,h y rfl]
theorem Jif{σ σ':Nat→AV}:∀ {l:List Operand},(∀ x∈l,evA σ x=evA σ' x)→ZC σ l=ZC σ' l
 | [],_=>rfl
 | x::l,h=>by simp only[ZC,h x (by simp),Jif (l:=l) (fun y hy=>h y (by simp[hy]))]
theorem Jue{P:Program}{Φ:Nat→Option PF}{Ψ:Nat→Option MF}{op:Op}{σ σ':Nat→AV}(hx:∀ x∈op.operands,evA σ x=evA σ' x)(h:Hp):aop P Φ Ψ op σ h=aop P Φ Ψ op σ' h:=by
 cases op <;> simp only[aop]
 case move x=>rw[hx x (by simp[Op.operands])]
 case assign x=>rw[hx x (by simp[Op.operands])]
 case pick c x y=>simp only[Jf6]; rw[hx c (by simp[Op.operands]),hx x (by simp[Op.operands]),hx y (by simp[Op.operands])]
 case binOp op t x y u=>simp only[aBin]; rw[hx x (by simp[Op.operands]),hx y (by simp[Op.operands])]
 case unOp op t x=>simp only[aUn]; rw[hx x (by simp[Op.operands])]
 case convert s d x=>simp only[JcN]; rw[hx x (by simp[Op.operands])]
 case box t x=>simp only[aBox]; rw[hx x (by simp[Op.operands])]
 case build t ps =>
  simp only[Jgg]
  rw[Jkb ps.toList _ (fun p hp=>hx p.2 (by simp only[Op.operands,List.mem_toArray,List.mem_map]; exact⟨p,hp,rfl⟩))]
 case buildSlice t n ps =>
  have h1:∀ p∈ps.toList,evA σ p.2=evA σ' p.2:=fun p hp=>hx p.2 (by simp only[Op.operands,List.mem_toArray,List.mem_map]; exact⟨p,hp,rfl⟩)
  simp only[Ja9]
  have h2:(ps.toList.map fun p=>sizeD (tCS P (Ju P t)) (evA σ p.2).toD)=ps.toList.map fun p=>sizeD (tCS P (Ju P t)) (evA σ' p.2).toD:=List.map_congr_left fun p hp=>by rw[h1 p hp]
  have h3:(ps.toList.all fun p=>(evA σ p.2).isD && (evA σ p.2).rowOk && ((evA σ p.2).toD.cells.length == Jo P (Ju P t)))=ps.toList.all fun p=>(evA σ' p.2).isD && (evA σ' p.2).rowOk && ((evA σ' p.2).toD.cells.length == Jo P (Ju P t)):=by
   rw[Bool.eq_iff_iff,List.all_eq_true,List.all_eq_true]
   exact⟨fun h p hp=>by rw[← h1 p hp]; exact h p hp,fun h p hp=>by rw[h1 p hp]; exact h p hp⟩
  rw[h2,h3]
 case load t x=>simp only[JeQ]; rw[hx x (by simp[Op.operands])]
 case store t x y=>simp only[JeZ]; rw[hx x (by simp[Op.operands]),hx y (by simp[Op.operands])]
 case nilCheck x=>simp only[Jcc]; rw[hx x (by simp[Op.operands])]
 case slice t x lo hi mx =>
  cases mx with
  | some mx =>
   cases hi with
   | none=>rfl
   | some hi =>
    have h1:∀ d,bnd σ d lo=bnd σ' d lo:=fun d=>JfP fun y hy=>hx y (by subst hy; simp[Op.operands])
    have h2:∀ d,bnd σ d (some hi)=bnd σ' d (some hi):=fun d=>JfP fun y hy=>hx y (by cases hy; simp[Op.operands])
    have h3:∀ d,bnd σ d (some mx)=bnd σ' d (some mx):=fun d=>JfP fun y hy=>hx y (by cases hy; simp[Op.operands])
    simp only[JdC,h1,h2,h3]
    rw[hx x (by simp[Op.operands])]
  | none =>
   have h1:∀ d,bnd σ d lo=bnd σ' d lo:=fun d=>JfP fun y hy=>hx y (by subst hy; simp[Op.operands])
   have h2:∀ d,bnd σ d hi=bnd σ' d hi:=fun d=>JfP fun y hy=>hx y (by subst hy; simp[Op.operands])
   simp only[JeW,h1,h2]
   rw[hx x (by simp[Op.operands])]
 case fieldAddr t x f=>simp only[Ja2]; rw[hx x (by simp[Op.operands])]
 case field t x f=>simp only[JeM]; rw[hx x (by simp[Op.operands])]
 case indexAddr t x i=>simp only[Ja3]; rw[hx x (by simp[Op.operands]),hx i (by simp[Op.operands])]
 case index t x i=>simp only[JeI]; rw[hx x (by simp[Op.operands]),hx i (by simp[Op.operands])]
 case extract x i=>simp only[JcO]; rw[hx x (by simp[Op.operands])]
 case lookup t x y c=>simp only[JdG]; rw[hx x (by simp[Op.operands]),hx y (by simp[Op.operands])]
 case makeMap t n=>cases n <;> rfl
 case makeInterface t x=>simp only[Ja6]; rw[hx x (by simp[Op.operands])]
 case typeAssert x xt t comma=>cases comma <;> simp only[XO]; rw[hx x (by simp[Op.operands])]
 case makeFunc fn first captured =>
  have h1:ZC σ captured.toList=ZC σ' captured.toList:=Jif fun x hxc=>hx x (by simp only[Op.operands,Array.mem_append]; right; simpa using hxc)
  generalize captured.toList=l at h1
  unfold X9
  split
  ·rfl
  ·rw[h1]
  ·rfl
 case call c =>
  obtain⟨callee,args,ts⟩:=c
  have ha:∀ x∈args.toList,evA σ x=evA σ' x:=fun x hxa=>hx x (by simp only[Op.operands,Call.operands,Array.mem_append]; right; simpa using hxa)
  cases callee with
  | invoke _ _=>rfl
  | value f =>
   have hf:=hx f (by simp[Op.operands,Call.operands])
   have h1:∀ l:List Operand,(∀ x∈l,evA σ x=evA σ' x)→(l.map fun x=>(evA σ x).toD)=l.map fun x=>(evA σ' x).toD:=fun l hl=>List.map_congr_left fun x hxl=>by rw[hl x hxl]
   have h2:∀ l:List Operand,(∀ x∈l,evA σ x=evA σ' x)→(l.all fun x=>(evA σ x).isD)=l.all fun x=>(evA σ' x).isD:=fun l hl=>by
    rw[Bool.eq_iff_iff,List.all_eq_true,List.all_eq_true]
    exact⟨fun h p hp=>by rw[← hl p hp]; exact h p hp,fun h p hp=>by rw[hl p hp]; exact h p hp⟩
   simp only[JeP,hf]
   cases hl:args.toList with
   | nil =>
    split
    ·split
     ·rfl
     ·cases Ψ ‹FuncId› <;> rfl
    ·rfl
   | cons x rest =>
    rw[hl]at ha
    rw[h1 (x::rest) ha,h2 (x::rest) ha]
    split
    ·rename_i n fs cs _
     split
     ·rfl
     ·cases Ψ n with
      | none=>rfl
      | some mf=>simp only[ha x (by simp),h1 rest (fun y hy=>ha y (by simp[hy])),h2 rest (fun y hy=>ha y (by simp[hy]))]
    ·rfl
  | builtin b =>
   simp only[Xg]
   split
   ·rename_i x t h1 h2
    simp only[aLen]; rw[ha x (by simp[h1])]
   ·rename_i s x t u h1 h2
    simp only[Jc9,Jc5]; rw[ha s (by simp[h1]),ha x (by simp[h1])]
   ·rename_i x y h1
    simp only[Jaw]; rw[ha x (by simp[h1]),ha y (by simp[h1])]
   ·rename_i x y h1
    simp only[Jaw]; rw[ha x (by simp[h1]),ha y (by simp[h1])]
   ·rename_i x t h1 h2
    simp only[Je0]; rw[ha x (by simp[h1])]
   ·rfl
theorem Jrt{σ:Nat→AV}{dst:Option Tmp}{v:AV}{x:Operand}(h:∀ d,dst=some d→x≠.tmp d):evA (putA σ dst v) x=evA σ x:=by
 cases dst with
 | none=>rfl
 | some d =>
  cases x with
  | tmp t =>
   have hne:t≠d:=fun e=>h d rfl (by rw[e])
   simp[evA,putA,upd,hne]
  | const v=>rfl
  | global g=>rfl
  | func f=>rfl
theorem Kv{σ:Nat→AV}{x y:Option Tmp}{u v:AV}(h:∀ d,x=some d→y≠some d):putA (putA σ x u) y v=putA (putA σ y v) x u:=by
 cases x with
 | none=>rfl
 | some d =>
  cases y with
  | none=>rfl
  | some c =>
   have hne:d≠c:=fun e=>h d rfl (by rw[e])
   funext i
   simp only[putA,upd]
   by_cases h1:i=d <;> by_cases h2:i=c <;> simp_all
section
variable {t:Tab} {ops:Array Oper} {pure:Nat→Nat} {md:Region.Mode}
theorem Jct{o:Oper}{σ:Nat→AV}{dst:Option Tmp}{v:AV}{h:Hp}(hd:∀ d,dst=some d→d∉o.looksAt ops):aop t.P t.Φ t.Ψ o.op (putA σ dst v) h=aop t.P t.Φ t.Ψ o.op σ h :=
 Jue (fun x hx=>Jrt fun d hdd hxd=>hd d hdd (by
  subst hxd
  exact List.mem_append_left _ (List.mem_filterMap.2 ⟨.tmp d,by simpa using hx,rfl⟩))) h
theorem XQ{o:Oper}{σ:Nat→AV}{dst:Option Tmp}{v:AV}{r s:Prop}(hd:∀ d,dst=some d→d∉o.looksAt ops):J9 ops (putA σ dst v) o.guard r s=J9 ops σ o.guard r s:=by
 unfold J9
 split
 ·rfl
 ·rename_i j want hg
  split
  ·rfl
  ·rename_i d hgs
   have hne:∀ c,dst=some c→d≠c:=fun c hc he=>by
    subst he
    refine hd d hc ?_
    unfold Oper.looksAt
    rw[hg]
    refine List.mem_append_right _ ?_
    have:(ops[j]?).bind (·.dst)=some d:=hgs
    simp[this]
   have:putA σ dst v d=σ d:=by
    cases dst with
    | none=>rfl
    | some c=>simp[putA,upd,hne c rfl]
   rw[this]
theorem JkR:∀ p w:Bool,p=w∨p=!w:=by decide
theorem Jgk{σ:Nat→AV}{g:Option (Nat×Bool)}{r s:Prop}(h:J9 ops σ g r s):r∨s:=by
 unfold J9 at h
 split at h
 ·exact .inl h
 ·split at h
  ·exact h.elim
  ·split at h
   ·exact(JkR _ _).elim (fun x=>.inl (h.1 x)) (fun x=>.inr (h.2 x))
   ·exact .inr h
   ·exact h.elim
theorem Jc8{σ:Nat→AV}{g g':Option (Nat×Bool)}{a b c d:Prop}(h:J9 ops σ g (J9 ops σ g' a b) (J9 ops σ g' c d)):
  J9 ops σ g' (J9 ops σ g a c) (J9 ops σ g b d):=by
 unfold J9 at *
 (repeat' split at h) <;> (repeat' split) <;> simp_all
theorem JhE{σ:Nat→AV}{g:Option (Nat×Bool)}{p r s:Prop}(h:J9 ops σ g (p∧r) (p∧s)):p∧J9 ops σ g r s:=by
 refine⟨(Jgk h).elim (·.1) (·.1),Jy (·.2) (·.2) h⟩
theorem Jc0{P:Program}{Φ:Nat→Option PF}{Ψ:Nat→Option MF}{op:Op}(h1:cls pure op=1)(σ:Nat→AV){h h':Hp}(hh:h'.H=h.H):aop P Φ Ψ op σ h'={ aop P Φ Ψ op σ h with h:=h' }:=by
 obtain⟨t,x,rfl⟩:=Ji9 h1
 simp only[aop,JeQ,hh]
 split
 ·split
  ·rename_i hr; simp only[KL]
  ·rename_i hr; simp only[AR.bad]
 ·simp only[KL]
 ·unfold Jbo; split <;> first | rfl | simp only[KL] | simp only[AR.bad]
 ·simp only[AR.bad]
theorem Jqo{op:Op}{σ σ':Nat→AV}(hx:∀ x∈op.operands,evA σ x=evA σ' x):J3 t σ op=J3 t σ' op:=by
 unfold J3
 split
 ·rename_i c
  obtain⟨callee,args,ts⟩:=c
  have ha:args.toList.map (evA σ)=args.toList.map (evA σ'):=List.map_congr_left fun x hxa=>hx x (by simp only[Op.operands,Call.operands,Array.mem_append]; right; simpa using hxa)
  cases callee with
  | value f =>
   have hf:=hx f (by simp[Op.operands,Call.operands])
   simp only[hf,ha]
  | _=>rfl
 ·rfl
theorem ZN{o:Oper}{σ:Nat→AV}{dst:Option Tmp}{v:AV}(hd:∀ d,dst=some d→d∉o.looksAt ops):J3 t (putA σ dst v) o.op=J3 t σ o.op :=
 Jqo (fun x hx=>Jrt fun d hdd hxd=>hd d hdd (by
  subst hxd
  exact List.mem_append_left _ (List.mem_filterMap.2 ⟨.tmp d,by simpa using hx,rfl⟩)))
theorem Jb8(hpure:∀ n,pure n=0→(t.Φ n).isSome){σ:Nat→AV}{op:Op}{x:Nat×List AV}(hx:J3 t σ op=some x):cls pure op=2∨cls pure op=6:=by
 unfold J3 at hx
 split at hx
 case h_2=>cases hx
 rename_i c
 obtain⟨callee,args,ts⟩:=c
 simp only at hx
 split at hx
 case h_2=>cases hx
 rename_i f
 cases f with
 | func n =>
  simp only[evA]at hx
  split at hx
  ·rename_i hc
   simp only[cls]
   split
   ·rename_i h0
    have:=hpure n h0
    rw[Option.isNone_iff_eq_none]at hc
    rw[hc.2.2.1]at this; cases this
   ·split
    ·exact .inl rfl
    ·exact .inr rfl
  ·cases hx
 | _=>exact .inr rfl
theorem Jno{σ:Nat→AV}{g:Option (Nat×Bool)}{p:Prop}{x:Nat×List AV}{h:Hp}{K1 K2:AV→Hp→Prop}{Kp:Value→Hp→Prop}
  (hh:J9 ops σ g (p∧aGen t x h K1 Kp) (aGen t x h K2 Kp)):aGen t x h (fun v h'=>J9 ops σ g (p∧K1 v h') (K2 v h')) Kp:=by
 unfold J9 at *
 split at hh
 ·exact Ja8 (fun v h' k=>⟨hh.1,k⟩) (fun _ _ k=>k) hh.2
 ·rename_i j want
  split at hh
  ·exact hh.elim
  ·split at hh
   ·rename_i q hq
    rcases JkR q want with hqw | hqw
    ·obtain⟨h1,h2⟩:=hh.1 hqw
     refine Ja8 (fun v h' k=>⟨fun _=>⟨h1,k⟩,fun hq'=>?_⟩) (fun _ _ k=>k) h2
     rw[hqw]at hq'; cases want <;> cases hq'
    ·refine Ja8 (fun v h' k=>⟨fun hq'=>?_,fun _=>k⟩) (fun _ _ k=>k) (hh.2 hqw)
     rw[hqw]at hq'; cases want <;> cases hq'
   ·exact Ja8 (fun v h' k=>k) (fun _ _ k=>k) hh
   ·exact hh.elim
theorem Jdx{op:Op}(h:cls pure op≠7):¬ isDP op=true:=by
 intro hd
 cases op <;> first | (exact absurd rfl h) | (cases hd)
theorem JtU(hpure:∀ n,pure n=0→(t.Φ n).isSome){oi oj:Oper}(hap:oi.apart ops oj=true)(h0:cls pure oi.op=0){K:(Nat→AV)→Hp→Prop}{Kp:Value→Hp→Prop}{σ:Nat→AV}{h:Hp}
  {x:Nat×List AV} (hx:J3 t σ oj.op=some x) (hi:J3 t σ oi.op=none) (hh:aOp t ops oi (aOp t ops oj K Kp) Kp σ h):aOp t ops oj (aOp t ops oi K Kp) Kp σ h:=by
 obtain⟨h1,h2,h3⟩:=Oper.apart_spec hap
 have hd:=Jdx (pure:=pure) (op:=oi.op) (by rw[h0]; decide)
 unfold aOp aRun at *
 have c0:=fun h'=>XU (P:=t.P) (Φ:=t.Φ) (Ψ:=t.Ψ) hpure h0 σ h h'
 simp only[XQ (o:=oj) h1,ZN (t:=t) (o:=oj) h1,hx,hi,if_neg hd]at hh
 simp only[XQ (o:=oi) h3,Jct (t:=t) (o:=oi) h3,ZN (t:=t) (o:=oi) h3,hx,hi,if_neg hd]
 have hh':=Jc8 (Jy (r':=J9 ops σ oj.guard
   ((aop t.P t.Φ t.Ψ oi.op σ h).pre∧aGen t x (aop t.P t.Φ t.Ψ oi.op σ h).h (fun v h'=>K (putA (putA σ oi.dst (aop t.P t.Φ t.Ψ oi.op σ h).val) oj.dst v) h') Kp)
   ((aop t.P t.Φ t.Ψ oi.op σ h).pre∧K (putA (putA σ oi.dst (aop t.P t.Φ t.Ψ oi.op σ h).val) oj.dst VV) (aop t.P t.Φ t.Ψ oi.op σ h).h))
  (fun x=>Jy (fun y=>⟨x.1,y⟩) (fun y=>⟨x.1,y⟩) x.2) (fun x=>x) hh)
 rw[(c0 h).2.2]at hh'
 refine Jy (fun y=>?_) (fun y=>?_) hh'
 ·refine Ja8 (fun v h' k=>?_) (fun _ _ k=>k) (Jno y)
  refine Jy (fun z=>?_) (fun z=>?_) k
  ·rw[← (c0 h').1,← (c0 h').2.1]
   refine⟨z.1,?_⟩
   have e1:=(XU (P:=t.P) (Φ:=t.Φ) (Ψ:=t.Ψ) hpure h0 σ h' h').2.2
   rw[e1,← Kv h2]; exact z.2
  ·rw[← Kv h2]; exact z
 ·refine Jy (fun z=>?_) (fun z=>?_) y
  ·rw[(c0 h).2.2]
   refine⟨z.1,?_⟩
   rw[← Kv h2]; exact z.2
  ·rw[← Kv h2]; exact z
theorem Jsp(hpure:∀ n,pure n=0→(t.Φ n).isSome)(hnp:∀ n,pure n=1→∀ g,t.G n g→∃ val bs ts,g.out=.ret val bs ts){oi oj:Oper}(hap:oi.apart ops oj=true)(h0:cls pure oj.op=0)(h6:cls pure oi.op≠6){K:(Nat→AV)→Hp→Prop}{Kp:Value→Hp→Prop}{σ:Nat→AV}{h:Hp}
  {x:Nat×List AV} (hx:J3 t σ oi.op=some x) (hj:J3 t σ oj.op=none) (hh:aOp t ops oi (aOp t ops oj K Kp) Kp σ h):aOp t ops oj (aOp t ops oi K Kp) Kp σ h:=by
 obtain⟨h1,h2,h3⟩:=Oper.apart_spec hap
 have hret:∀ g,t.G x.1 g→∃ val bs ts,g.out=.ret val bs ts:=by
  have hc:=Jb8 hpure hx
  unfold J3 at hx
  split at hx
  case h_2=>cases hx
  rename_i c heq
  rw[heq]at hc h6
  obtain⟨callee,args,ts⟩:=c
  simp only at hx
  split at hx
  case h_2=>cases hx
  rename_i f
  cases f with
  | func n =>
   simp only[evA]at hx
   split at hx
   ·cases hx
    simp only[cls]at hc h6
    split at h6
    ·rename_i hz; rw[if_pos hz]at hc; omega
    ·split at h6
     ·rename_i h1; exact hnp n h1
     ·exact absurd rfl h6
   ·cases hx
  | _=>exact absurd rfl h6
 have hd:=Jdx (pure:=pure) (op:=oj.op) (by rw[h0]; decide)
 unfold aOp aRun at *
 have c0:=fun h'=>XU (P:=t.P) (Φ:=t.Φ) (Ψ:=t.Ψ) hpure h0 σ h h'
 simp only[XQ (o:=oj) h1,Jct (t:=t) (o:=oj) h1,ZN (t:=t) (o:=oj) h1,hx,hj,if_neg hd]at hh
 simp only[XQ (o:=oi) h3,ZN (t:=t) (o:=oi) h3,hx,hj,if_neg hd]
 have pull:∀ {g:Option (Nat×Bool)} {A B:AV→Hp→Prop},aGen t x h (fun v h'=>J9 ops σ g (A v h') (B v h')) Kp→J9 ops σ g (aGen t x h A Kp) (aGen t x h B Kp):=by
  intro g A B hg
  obtain⟨gi,r,k1,k2,k3⟩:=hg
  obtain⟨val,bs,ts,ho⟩:=hret gi k1
  rw[ho]at k3
  refine Jy (fun y=>?_) (fun y=>?_) k3
  ·exact⟨gi,r,k1,k2,by rw[ho]; exact y⟩
  ·exact⟨gi,r,k1,k2,by rw[ho]; exact y⟩
 have hh':=Jc8 (Jy (fun y=>pull y) (fun y=>y) hh)
 refine Jy (fun y=>?_) (fun y=>?_) hh'
 ·have hp:(aop t.P t.Φ t.Ψ oj.op σ h).pre:=by
   rcases Jgk y with z | z
   ·obtain⟨gi,r,k1,k2,k3⟩:=z
    obtain⟨val,bs,ts,ho⟩:=hret gi k1
    rw[ho]at k3
    rw[(c0 _).1]; exact k3.1
   ·exact z.1
  refine⟨hp,Jy (fun z=>?_) (fun z=>?_) y⟩
  ·rw[(c0 h).2.2]
   refine Ja8 (fun v h' k=>?_) (fun _ _ k=>k) z
   have e1:=(XU (P:=t.P) (Φ:=t.Φ) (Ψ:=t.Ψ) hpure h0 σ h' h').2.2
   rw[(c0 h').2.1,← Kv h2]
   rw[e1]at k; exact k.2
  ·rw[← Kv h2]; exact z.2
 ·refine Jy (fun z=>?_) (fun z=>?_) y
  ·refine Ja8 (fun v h' k=>?_) (fun _ _ k=>k) z
   rw[← Kv h2]; exact k
  ·rw[← Kv h2]; exact z
theorem JuJ(hpure:∀ n,pure n=0→(t.Φ n).isSome)(hnp:∀ n,pure n=1→∀ g,t.G n g→∃ val bs ts,g.out=.ret val bs ts){oi oj:Oper}(hap:oi.apart ops oj=true)(hc:Jgh (cls pure oi.op) (cls pure oj.op)=true){K:(Nat→AV)→Hp→Prop}{Kp:Value→Hp→Prop}{σ:Nat→AV}{h:Hp}(hfr:h.Fr)
  (hh:aOp t ops oi (aOp t ops oj K Kp) Kp σ h):aOp t ops oj (aOp t ops oi K Kp) Kp σ h:=by
 cases hgi:J3 t σ oi.op with
 | some xi =>
  have k1:=Jb8 hpure hgi
  cases hgj:J3 t σ oj.op with
  | some xj =>
   have k2:=Jb8 hpure hgj
   exfalso
   rcases k1 with k1 | k1 <;> rcases k2 with k2 | k2 <;> (rw[k1,k2]at hc; cases hc)
  | none =>
   have k2:cls pure oj.op=0:=by
    simp only[Jgh,Bool.or_eq_true,beq_iff_eq,Bool.and_eq_true]at hc
    omega
   have k6:cls pure oi.op≠6:=by
    intro k6
    rw[k6,k2]at hc
    cases hc
   exact Jsp hpure hnp hap k2 k6 hgi hgj hh
 | none =>
 cases hgj:J3 t σ oj.op with
 | some xj =>
  have k2:=Jb8 hpure hgj
  have k1:cls pure oi.op=0:=by
   simp only[Jgh,Bool.or_eq_true,beq_iff_eq,Bool.and_eq_true]at hc
   omega
  exact JtU hpure hap k1 hgj hgi hh
 | none =>
 obtain⟨h1,h2,h3⟩:=Oper.apart_spec hap
 have hc7:cls pure oi.op≠7∧cls pure oj.op≠7:=by
  simp only[Jgh,Bool.and_eq_true,bne_iff_ne]at hc
  exact hc.1
 have hd1:=Jdx hc7.1
 have hd2:=Jdx hc7.2
 unfold aOp aRun at *
 simp only[XQ (o:=oj) h1,Jct (t:=t) (o:=oj) h1,ZN (t:=t) (o:=oj) h1,hgi,hgj,if_neg hd1,if_neg hd2]at hh
 simp only[XQ (o:=oi) h3,Jct (t:=t) (o:=oi) h3,ZN (t:=t) (o:=oi) h3,hgi,hgj,if_neg hd1,if_neg hd2]
 -- what one makes of the heap is nothing to the other
 have hj:(aop t.P t.Φ t.Ψ oj.op σ (aop t.P t.Φ t.Ψ oi.op σ h).h).pre=(aop t.P t.Φ t.Ψ oj.op σ h).pre ∧
   (aop t.P t.Φ t.Ψ oj.op σ (aop t.P t.Φ t.Ψ oi.op σ h).h).val=(aop t.P t.Φ t.Ψ oj.op σ h).val ∧
   ((aop t.P t.Φ t.Ψ oi.op σ h).pre→(aop t.P t.Φ t.Ψ oi.op σ (aop t.P t.Φ t.Ψ oj.op σ h).h).pre ∧
   (aop t.P t.Φ t.Ψ oi.op σ (aop t.P t.Φ t.Ψ oj.op σ h).h).val=(aop t.P t.Φ t.Ψ oi.op σ h).val) ∧
   (aop t.P t.Φ t.Ψ oj.op σ (aop t.P t.Φ t.Ψ oi.op σ h).h).h=(aop t.P t.Φ t.Ψ oi.op σ (aop t.P t.Φ t.Ψ oj.op σ h).h).h:=by
  simp only[Jgh,Bool.or_eq_true,beq_iff_eq,Bool.and_eq_true]at hc
  rcases hc.2 with((hc | hc) | ⟨hci,hcj⟩) | ⟨hci,hcj⟩
  ·have a1:=XU (P:=t.P) (Φ:=t.Φ) (Ψ:=t.Ψ) hpure hc σ h (aop t.P t.Φ t.Ψ oj.op σ h).h
   have a2:=XU (P:=t.P) (Φ:=t.Φ) (Ψ:=t.Ψ) hpure hc σ (aop t.P t.Φ t.Ψ oj.op σ h).h h
   rw[a1.2.2]
   exact⟨rfl,rfl,fun hp=>⟨a1.1 ▸ hp,a1.2.1.symm⟩,a2.2.2.symm⟩
  ·have hc:=hc.1
   have a1:=XU (P:=t.P) (Φ:=t.Φ) (Ψ:=t.Ψ) hpure hc σ h (aop t.P t.Φ t.Ψ oi.op σ h).h
   have a2:=XU (P:=t.P) (Φ:=t.Φ) (Ψ:=t.Ψ) hpure hc σ (aop t.P t.Φ t.Ψ oi.op σ h).h h
   rw[a1.2.2]
   exact⟨a1.1.symm,a1.2.1.symm,fun hp=>⟨hp,rfl⟩,a2.2.2⟩
  ·have a1:=Xf (P:=t.P) (Φ:=t.Φ) (Ψ:=t.Ψ) hci σ h
   have a2:=Xf (P:=t.P) (Φ:=t.Φ) (Ψ:=t.Ψ) hci σ (aop t.P t.Φ t.Ψ oj.op σ h).h
   rw[a1,a2]
   refine⟨rfl,rfl,fun hp=>Jp0 hci σ h _ (fun n row hn=>?_) hp,rfl⟩
   rcases hcj with(hcj | hcj) | hcj
   ·rw[Xf hcj]; exact hn
   ·rw[Je9 hcj]; exact hn
   ·obtain⟨row',hr⟩:=JoT (P:=t.P) (Φ:=t.Φ) (Ψ:=t.Ψ) hcj σ h
    rw[hr]
    have hne:n≠h.nx:=fun he=>by have:=hfr n (by omega); rw[this]at hn; cases hn
    simp[Hp.box,upd,hne,hn]
  ·have b1:=Je9 (P:=t.P) (Φ:=t.Φ) (Ψ:=t.Ψ) hci σ h
   have b2:=Xf (P:=t.P) (Φ:=t.Φ) (Ψ:=t.Ψ) hcj σ h
   have b3:=Xf (P:=t.P) (Φ:=t.Φ) (Ψ:=t.Ψ) hcj σ (aop t.P t.Φ t.Ψ oi.op σ h).h
   rw[b2,b3]
   have e:=Jc0 (P:=t.P) (Φ:=t.Φ) (Ψ:=t.Ψ) hcj σ (h:=h) (h':=(aop t.P t.Φ t.Ψ oi.op σ h).h) b1
   rw[e]
   exact⟨rfl,rfl,fun hp=>⟨hp,rfl⟩,rfl⟩
 obtain⟨j1,j2,j3,j5⟩:=hj
 simp only[j1,j2]at hh
 have hh':=Jc8 (Jy (r':=J9 ops σ oj.guard
   ((aop t.P t.Φ t.Ψ oi.op σ h).pre∧(aop t.P t.Φ t.Ψ oj.op σ h).pre∧K (putA (putA σ oi.dst (aop t.P t.Φ t.Ψ oi.op σ h).val) oj.dst (aop t.P t.Φ t.Ψ oj.op σ h).val) (aop t.P t.Φ t.Ψ oj.op σ (aop t.P t.Φ t.Ψ oi.op σ h).h).h)
   ((aop t.P t.Φ t.Ψ oi.op σ h).pre∧K (putA (putA σ oi.dst (aop t.P t.Φ t.Ψ oi.op σ h).val) oj.dst VV) (aop t.P t.Φ t.Ψ oi.op σ h).h))
  (fun x=>Jy (fun y=>⟨x.1,y⟩) (fun y=>⟨x.1,y⟩) x.2) (fun x=>x) hh)
 refine Jy (fun x=>?_) (fun x=>?_) hh'
 ·have hp:(aop t.P t.Φ t.Ψ oj.op σ h).pre:=(Jgk x).elim (·.2.1) (·.1)
  refine⟨hp,Jy (fun y=>⟨(j3 y.1).1,?_⟩) (fun y=>?_) x⟩
  ·rw[← j5,(j3 y.1).2,← Kv h2]; exact y.2.2
  ·rw[← Kv h2]; exact y.2
 ·refine Jy (fun y=>⟨y.1,?_⟩) (fun y=>?_) x
  ·rw[← Kv h2]; exact y.2
  ·rw[← Kv h2]; exact y
theorem Jke{h:Hp}{r:Ren}{g:GI}{args:List AV}(hf:h.Fr)(hg:GHands h r g args)(bs:List (List C))(ts:List TypeId):(h.after r bs ts).Fr:=by
 intro n hn
 have hn:h.nx+bs.length+ts.length≤n:=hn
 show putB (r.back h.nx) 1 bs h.H n=none
 rw[JgF fun j h1 h2 he=>?_,hf n (by omega)]
 by_cases hj:j≤r.ps.length∧r.p j≠0
 ·rw[Jch (by omega) hj.1 hj.2]at he
  have hlt:j-1<g.bs.length:=by rw[hg.lb]; omega
  have:=hg.bwk.at (j-1) g.bs[j-1] (List.getElem?_eq_getElem hlt) (hg.live _ (List.getElem_mem _))
  rw[show 1+(j-1)=j by omega]at this
  rcases this with⟨h1,_⟩|⟨h1,row0,h2,_⟩
  ·exact hj.2 h1
  ·rw[he,hf n (by omega)]at h2; cases h2
 ·rw[JcM (by omega) hj]at he; omega
theorem JnU{o:Oper}{K:(Nat→AV)→Hp→Prop}{Kp:Value→Hp→Prop}{σ:Nat→AV}{h:Hp}(hf:h.Fr)(hh:aOp t ops o K Kp σ h):aOp t ops o (fun σ' h'=>h'.Fr∧K σ' h') Kp σ h:=by
 refine Jy (fun x=>?_) (fun x=>⟨hf,x⟩) hh
 unfold aRun at *
 split at x
 ·split at x
  ·rename_i hd
   rw[if_pos hd]
   unfold aDP at *
   split at x
   ·split at x
    ·exact⟨hf,x⟩
    ·exact x.elim
   ·split at x
    ·exact x
    ·exact x.elim
   ·exact x.elim
  ·rename_i hd
   rw[if_neg hd]
   exact⟨x.1,JnT hf,x.2⟩
 ·obtain⟨g,r,k1,k2,k3⟩:=x
  refine⟨g,r,k1,k2,?_⟩
  split at k3
  ·rename_i ho; exact⟨Jke hf k2 _ _,k3⟩
  ·exact k3
end
end Go.Proofs.Ytaofbminodhcnaa
namespace Go.Proofs.Ytaofbminodhcnaa
open Go.RowKit
def Jc7(ops:Array Oper)(j k:Nat):Bool:=match ops[j]? with | some o=>o.after.toList.any fun e=>Region.binds .any e && e.on == k | none=>true
def JgU(ops:Array Oper):Nat→Nat→Nat→Bool
 | 0,_,_=>false
 | f+1,j,k=>Jc7 ops j k || (match ops[j]? with | some o=>o.after.toList.any fun e=>Region.binds .any e && decide (e.on<j) && JgU ops f e.on k | none=>true)
def JgJ(pure:Nat→Nat)(ops:Array Oper)(listed:Array Bool)(k:Nat):Bool :=
 match ops[k]? with
 | none=>false
 | some ok=>(List.range ops.size).all fun j=>j == k || listed.getD j true || Jc7 ops j k ||
   (match ops[j]? with
    | some oj=>ok.apart ops oj && (Jgh (cls pure ok.op) (cls pure oj.op) || JgU ops 9 j k)
    | none=>true)
def JgB(pure:Nat→Nat)(ops:Array Oper):Nat→Nat→Array Bool→Bool
 | 0,_,listed=>(Region.ready .any ops listed).isEmpty
 | f+1,k,listed=>(Region.ready .any ops listed).contains k && JgJ pure ops listed k && JgB pure ops f (k+1) (listed.setIfInBounds k true)
def Jsi(pure:Nat→Nat)(ops:Array Oper):Bool:=JgB pure ops ops.size 0 (Array.replicate ops.size false)
def DC(ops:Array Oper)(listed:Array Bool):Prop:=∀ m o,ops[m]? = some o→listed.getD m false=true→∀ e∈o.after,Region.binds .any e=true→listed.getD e.on false=true
theorem DC.set{ops:Array Oper}{listed:Array Bool}(h:DC ops listed){j:Nat}(hj:j∈Region.ready .any ops listed):DC ops (listed.setIfInBounds j true):=by
 intro m o ho hm e he hb
 by_cases hmj:j=m
 ·subst hmj
  obtain⟨_,o',ho',hall⟩:=mem_ready.1 hj
  rw[ho]at ho'; cases ho'
  exact getD_set_true (hall e he hb)
 ·rw[getD_set_ne false hmj]at hm
  exact getD_set_true (h m o ho hm e he hb)
theorem Jrp{listed:Array Bool}{k:Nat}(h:listed.getD k true=false):listed.getD k false=false:=by
 rcases Nat.lt_or_ge k listed.size with h' | h'
 ·simp[h']at h ⊢; exact h
 ·simp[Array.getElem?_eq_none h']at h
theorem Jdt{ops:Array Oper}{listed:Array Bool}(hdc:DC ops listed){k:Nat}:∀ (f j:Nat) (o:Oper),ops[j]? = some o→(∀ e∈o.after,Region.binds .any e=true→listed.getD e.on false=true) →
  (∀ m,listed.getD m false=true→(ops[m]?).isSome)→JgU ops f j k=true→listed.getD k false=true
 | 0,_,_,_,_,_,h=>by simp[JgU]at h
 | f+1,j,o,ho,hall,hin,h=>by
  simp only[JgU,Jc7,ho,Bool.or_eq_true,List.any_eq_true,Bool.and_eq_true,beq_iff_eq,decide_eq_true_eq]at h
  rcases h with⟨e,he,hb,rfl⟩|⟨e,he,⟨hb,_⟩,hw⟩
  ·exact hall e (by simpa using he) hb
  ·have hl:=hall e (by simpa using he) hb
   obtain⟨o',ho'⟩:=Option.isSome_iff_exists.1 (hin _ hl)
   exact Jdt hdc f e.on o' ho' (fun e' he' hb'=>hdc e.on o' ho' hl e' he' hb') hin hw
section
variable {t:Tab} {ops:Array Oper} {pure:Nat→Nat}
def JgQ(t:Tab)(ops:Array Oper)(i:Nat)(K:(Nat→AV)→Hp→Prop)(Kp:Value→Hp→Prop)(σ:Nat→AV)(h:Hp):Prop :=
 match ops[i]? with
 | none=>K σ h
 | some o=>aOp t ops o K Kp σ h
def aAny(t:Tab)(ops:Array Oper)(K:(Nat→AV)→Hp→Prop)(Kp:Value→Hp→Prop):Nat→Array Bool→(Nat→AV)→Hp→Prop
 | 0,listed,σ,h=>Region.ready .any ops listed=[]∧K σ h
 | f+1,listed,σ,h=>(Region.ready .any ops listed=[]→K σ h)∧∀ i∈Region.ready .any ops listed,JgQ t ops i (aAny t ops K Kp f (listed.setIfInBounds i true)) Kp σ h
theorem JsT{listed:Array Bool}{i j:Nat}{oi oj:Oper}(hi:ops[i]? = some oi)(hj:ops[j]? = some oj)(hji:j≠i)(hdc:DC ops listed)(hin:∀ m,listed.getD m false=true→(ops[m]?).isSome)
  (hf:JgJ pure ops listed i=true) (hiun:listed.getD i true=false) (hr:j∈Region.ready .any ops listed):oi.apart ops oj=true∧Jgh (cls pure oi.op) (cls pure oj.op)=true:=by
 obtain⟨hjun,oj',hoj',hall⟩:=mem_ready.1 hr
 rw[hj]at hoj'; cases hoj'
 have hjlt:j<ops.size:=(Array.getElem?_eq_some_iff.1 hj).1
 simp only[JgJ,hi,List.all_eq_true,List.mem_range]at hf
 have h1:=hf j hjlt
 simp only[hj,hjun,Bool.or_eq_true,beq_iff_eq,hji,Bool.false_eq_true,or_false,false_or,Bool.and_eq_true]at h1
 have hnot:listed.getD i false=false:=Jrp hiun
 rcases h1 with h1 | ⟨h1,h2 | h2⟩
 ·simp only[Jc7,hj,List.any_eq_true,Bool.and_eq_true,beq_iff_eq]at h1
  obtain⟨e,he,hb,rfl⟩:=h1
  have:=hall e (by simpa using he) hb
  rw[hnot]at this; cases this
 ·exact⟨h1,h2⟩
 ·have:=Jdt hdc 9 j oj hj hall hin h2
  rw[hnot]at this; cases this
theorem Jss{listed:Array Bool}{i j:Nat}(h:JgJ pure ops listed i=true)(hji:j≠i):JgJ pure ops (listed.setIfInBounds j true) i=true:=by
 unfold JgJ at *
 split
 ·simp_all
 ·rename_i ok hk
  simp only[hk,List.all_eq_true,List.mem_range]at h ⊢
  intro m hm
  have:=h m hm
  by_cases hmj:j=m
  ·subst hmj
   have hs:(listed.setIfInBounds j true).getD j true=true:=by simp[Array.getElem?_setIfInBounds]; split <;> simp_all
   simp[hs]
  ·rw[getD_set_ne true hmj]; exact this
theorem JgD{listed:Array Bool}{j:Nat}(hin:∀ m,listed.getD m false=true→(ops[m]?).isSome)(hj:(ops[j]?).isSome):∀ m,(listed.setIfInBounds j true).getD m false=true→(ops[m]?).isSome:=by
 intro m hm
 by_cases hmj:j=m
 ·subst hmj; exact hj
 ·rw[getD_set_ne false hmj]at hm; exact hin m hm
def unl(listed:Array Bool):Nat:=listed.toList.count false
theorem JdI{listed:Array Bool}{i:Nat}(h:listed.getD i true=false):unl (listed.setIfInBounds i true)+1=unl listed:=by
 have hi:i<listed.size:=by
  rcases Nat.lt_or_ge i listed.size with h' | h'
  ·exact h'
  ·simp[Array.getElem?_eq_none h']at h
 have hv:listed[i]=false:=by simpa [hi] using h
 unfold unl
 rw[Array.toList_setIfInBounds,List.count_set (by simpa using hi)]
 have hv':listed.toList[i]'(by simpa using hi)=false:=by simpa using hv
 have hpos:0<listed.toList.count false:=by
  rw[List.count_pos_iff]
  rw[← hv']; exact List.getElem_mem _
 rw[hv']
 simp only[beq_self_eq_true,if_true]
 have:(true == false)=false:=rfl
 simp only[this,Bool.false_eq_true,if_false]
 omega
theorem Jey{listed:Array Bool}(h:unl listed=0):Region.ready .any ops listed=[]:=by
 cases hr:Region.ready .any ops listed with
 | nil=>rfl
 | cons j l =>
  have hj:j∈Region.ready .any ops listed:=by rw[hr]; simp
  have:=JdI (mem_ready.1 hj).1
  omega
theorem Jsz{K:(Nat→AV)→Hp→Prop}{Kp:Value→Hp→Prop}(hpure:∀ n,pure n=0→(t.Φ n).isSome)(hnp:∀ n,pure n=1→∀ g,t.G n g→∃ val bs ts,g.out=.ret val bs ts){i:Nat}{oi:Oper}(hi:ops[i]? = some oi):
  ∀ (fuel:Nat) (listed:Array Bool) (σ:Nat→AV) (h:Hp),unl listed≤fuel+1→h.Fr→DC ops listed→(∀ m,listed.getD m false=true→(ops[m]?).isSome)→JgJ pure ops listed i=true→i∈Region.ready .any ops listed →
   aOp t ops oi (aAny t ops K Kp fuel (listed.setIfInBounds i true)) Kp σ h→aAny t ops K Kp (fuel+1) listed σ h:=by
 intro fuel
 induction fuel with
 | zero =>
  intro listed σ h hu hfr hdc hin hf hr H
  refine⟨fun h'=>(by rw[h']at hr; cases hr),fun j hj=>?_⟩
  by_cases hji:j=i
  ·subst hji; simp only[JgQ,hi]; exact H
  ·have h2:=ready_mono hj hji
   have h3:Region.ready .any ops (listed.setIfInBounds i true)=[]:=Jey (by have:=JdI (mem_ready.1 hr).1; omega)
   rw[h3]at h2
   cases h2
 | succ fuel ih =>
  intro listed σ h hu hfr hdc hin hf hr H
  refine⟨fun h'=>(by rw[h']at hr; cases hr),fun j hj=>?_⟩
  by_cases hji:j=i
  ·subst hji; simp only[JgQ,hi]; exact H
  ·obtain⟨hjun,oj,hoj,hall⟩:=mem_ready.1 hj
   have hiun:=(mem_ready.1 hr).1
   obtain⟨hap,hc⟩:=JsT hi hoj hji hdc hin hf hiun hj
   have h1:aOp t ops oi (aOp t ops oj (aAny t ops K Kp fuel ((listed.setIfInBounds i true).setIfInBounds j true)) Kp) Kp σ h:=Jfl (fun σ' h' hx=>by
    have:=hx.2 j (ready_mono hj hji)
    simp only[JgQ,hoj]at this
    exact this) (fun _ _ x=>x) H
   have h2:=JnU hfr (JuJ hpure hnp hap hc hfr h1)
   simp only[JgQ,hoj]
   refine Jfl (fun σ' h' hx=>ih (listed.setIfInBounds j true) σ' h' (by have:=JdI hjun; omega) hx.1 (hdc.set hj) (JgD hin (by rw[hoj]; rfl)) (Jss hf hji) (ready_mono hr (Ne.symm hji)) ?_) (fun _ _ x=>x) h2
   rw[Array.setIfInBounds_comm _ _ hji]
   exact hx.2
theorem Jpm{K:(Nat→AV)→Hp→Prop}{Kp:Value→Hp→Prop}(hpure:∀ n,pure n=0→(t.Φ n).isSome)(hnp:∀ n,pure n=1→∀ g,t.G n g→∃ val bs ts,g.out=.ret val bs ts):∀ (l:List Oper) (k:Nat) (listed:Array Bool) (σ:Nat→AV) (h:Hp),unl listed≤l.length→h.Fr→DC ops listed→(∀ m,listed.getD m false=true→(ops[m]?).isSome) →
  (∀ j,l[j]? = ops[k+j]?)→JgB pure ops l.length k listed=true→aOps t ops K Kp l σ h→aAny t ops K Kp l.length listed σ h
 | [],_,_,_,_,_,_,_,_,_,hB,hh=>⟨by simpa [JgB] using hB,hh⟩
 | o::l,k,listed,σ,h,hu,hfr,hdc,hin,hl,hB,hh=>by
  have h0:ops[k]? = some o:=by simpa using (hl 0).symm
  simp only[List.length_cons,JgB,Bool.and_eq_true]at hB
  obtain⟨⟨hr,hf⟩,hB'⟩:=hB
  have hr':k∈Region.ready .any ops listed:=by simpa using hr
  refine Jsz hpure hnp h0 l.length listed σ h hu hfr hdc hin hf hr' ?_
  refine Jfl (fun σ' h' hx=>?_) (fun _ _ x=>x) (JnU hfr hh)
  exact Jpm hpure hnp l (k+1) _ σ' h' (by have:=JdI (mem_ready.1 hr').1; simp only[List.length_cons]at hu; omega) hx.1 (hdc.set hr') (JgD hin (by rw[h0]; rfl)) (fun j=>by have:=hl (j+1); simpa [Nat.add_assoc,Nat.add_comm 1 j] using this) hB' hx.2
theorem Jh8{Γ:Ctx}(ht:TabOk t)(hP:t.P=Γ.P){K:(Nat→AV)→Hp→Prop}{Kp:Value→Hp→Prop}{Q:Exit→Act→World→Prop}{σ0:Nat→AV}(hall:(ops.toList.all (opIn Γ.nt ops))=true)(hnd:∀ o∈ops.toList,¬ Jgc o.op=true)
  (hQ:∀ σ h a e,K σ h→Jz Γ.nt Γ.ds σ a e→WInv Γ h e→Q .normal a e.w)
  (hQp:∀ v h a e,Kp v h→Jz Γ.nt Γ.ds (Xc ops σ0) a e→WInv Γ h e→Q (.panic [{ v:=v,recovered:=false }]) a e.w):∀ (fuel:Nat) (listed:Array Bool) (σ:Nat→AV) (h:Hp) (a:Act) (e:Env),
   Xc ops σ=Xc ops σ0→aAny t ops K Kp fuel listed σ h→Jz Γ.nt Γ.ds σ a e→WInv Γ h e→wpAny Γ.P .any ops Q fuel listed a e.w
 | 0,_,σ,h,a,e,_,hh,hs,hw=>⟨hh.1,hQ σ h a e hh.2 hs hw⟩
 | fuel+1,listed,σ,h,a,e,hfg,hh,hs,hw=>by
  refine⟨fun h0=>hQ σ h a e (hh.1 h0) hs hw,fun i hi=>?_⟩
  have ih:=Jh8 ht hP hall hnd hQ hQp fuel (listed.setIfInBounds i true)
  have h1:=hh.2 i hi
  obtain⟨_,o,ho,_⟩:=mem_ready.1 hi
  have hmem:o∈ops.toList:=by simpa using Array.mem_of_getElem? ho
  simp only[JgQ,ho]at h1
  simp only[wpOp,ho]
  have hin:opIn Γ.nt ops o=true:=by
   rw[List.all_eq_true]at hall
   exact hall o hmem
  rcases Jjs hin hs h1 with⟨hwant,hrun⟩|⟨hwant,hK⟩
  ·rw[if_pos hwant]
   refine .inl ?_
   have hop:=Jmi hin hs
   unfold aRun at hrun
   split at hrun
   ·by_cases hdp:isDP o.op=true
    ·rw[if_pos hdp]at hrun
     exact JnE hop hs (JdF hin) hrun (fun hde=>absurd hde (hnd o hmem)) (fun v hk=>hQp v h a e hk (by rw[← hfg]; exact Jg2 hall hs) hw)
    rw[if_neg hdp]at hrun
    obtain⟨hpre,hK⟩:=hrun
    have hvr:VR Γ o σ h (aop t.P t.Φ t.Ψ o.op σ h).val (aop t.P t.Φ t.Ψ o.op σ h).h:=by
     have:=Jt8 (Γ:=Γ) (Φ:=t.Φ) (Ψ:=t.Ψ) (σ:=σ) (h:=h) (by rw[← hP]; exact ht.pf) (by rw[← hP]; exact ht.mf) o (by rw[← hP]; exact hpre)
     rw[← hP]at this
     exact this
    exact hvr a e hop hw _ _ fun v e' hw' hle hv=>ih _ _ _ _ (by rw[JdK hmem]; exact hfg) hK ((hs.mono hle).put o.dst (JdF hin) hv) hw'
   ·rename_i x hx
    exact Jk2 ht hP hx hrun hop hw (fun av h' v e' hk hw' hle hv=>ih _ _ _ _ (by rw[JdK hmem]; exact hfg) hk ((hs.mono hle).put o.dst (JdF hin) hv) hw')
     (fun v h' e' hk hw' hle=>hQp v h' a e' hk (by rw[← hfg]; exact Jg2 hall (hs.mono hle)) hw')
  ·rw[if_neg (by rw[hwant]; simp)]
   exact ih _ _ _ _ (by rw[JdK hmem]; exact hfg) hK (hs.put o.dst (JdF hin) (RA.undef e)) hw
def aReg(t:Tab)(id:Nat)(ops:Array Oper)(draw:Bool)(K:(Nat→AV)→Hp→Prop)(Kp:Value→Hp→Prop)(σ:Nat→AV)(h:Hp):Prop :=
 if(draw && t.lk.contains id)=true then(h.Fr→aAny t ops K Kp ops.size (Array.replicate ops.size false) σ h) else aOps t ops K Kp ops.toList σ h
theorem Jjo{K K':(Nat→AV)→Hp→Prop}{Kp Kp':Value→Hp→Prop}(hk:∀ σ h,K σ h→K' σ h)(hp:∀ v h,Kp v h→Kp' v h):∀ {f:Nat} {listed:Array Bool} {σ:Nat→AV} {h:Hp},aAny t ops K Kp f listed σ h→aAny t ops K' Kp' f listed σ h
 | 0,_,_,_,hh=>⟨hh.1,hk _ _ hh.2⟩
 | f+1,_,_,_,hh=>⟨fun x=>hk _ _ (hh.1 x),fun i hi=>by
  have:=hh.2 i hi
  unfold JgQ at *
  split
  ·rename_i h0; rw[h0]at this; exact Jjo hk hp this
  ·rename_i o h0; rw[h0]at this; exact Jfl (fun _ _ x=>Jjo hk hp x) hp this⟩
theorem Jtg{id:Nat}{draw:Bool}{K K':(Nat→AV)→Hp→Prop}{Kp Kp':Value→Hp→Prop}(hk:∀ σ h,K σ h→K' σ h)(hp:∀ v h,Kp v h→Kp' v h){σ:Nat→AV}{h:Hp}(hh:aReg t id ops draw K Kp σ h):aReg t id ops draw K' Kp' σ h:=by
 unfold aReg at *
 split
 ·rename_i h0; rw[if_pos h0]at hh; exact fun hf=>Jjo hk hp (hh hf)
 ·rename_i h0; rw[if_neg h0]at hh; exact JnK hk hp hh
theorem JkT{id:Nat}{draw:Bool}{K:(Nat→AV)→Hp→Prop}{Kp:Value→Hp→Prop}{σ:Nat→AV}{h:Hp}(hl:(draw && t.lk.contains id)=false)(hh:aOps t ops K Kp ops.toList σ h):aReg t id ops draw K Kp σ h:=by
 unfold aReg
 rw[hl]; exact hh
theorem WInv.fr{Γ:Ctx}{h:Hp}{e:Env}(hw:WInv Γ h e):h.Fr:=fun n hn=>(hw.fresh n hn).1
theorem WInv.drewn{Γ:Ctx}{h:Hp}{e:Env}(hw:WInv Γ h e):WInv Γ h { e with w:=e.w.drew }∧e.le { e with w:=e.w.drew }:=hw.quiet (Grows.drew _)
theorem JpE{Γ:Ctx}(ht:TabOk t)(hP:t.P=Γ.P)(hm:Γ.P.follows .mixedOrders=true)(hpure:∀ n,pure n=0→(t.Φ n).isSome)(hnp:∀ n,pure n=1→∀ g,t.G n g→∃ val bs ts,g.out=.ret val bs ts){K:(Nat→AV)→Hp→Prop}{Kp:Value→Hp→Prop}{Q:Exit→Act→World→Prop}{id:Nat}{draw:Bool}
  (hall:(ops.toList.all (opIn Γ.nt ops))=true) (hd:draw=true→(t.lk.contains id=true∨Jsi pure ops=true)∧(ops.toList.all fun o=>!Jgc o.op)=true) (hdl:JfL ops.toList=true) {σ:Nat→AV} {h:Hp} {a:Act} {e:Env}
  (hQ:∀ σ h a e,K σ h→Jz Γ.nt Γ.ds σ a e→WInv Γ h e→Q .normal a e.w)
  (hQp:∀ v h a e,Kp v h→Jz Γ.nt Γ.ds (Xc ops σ) a e→WInv Γ h e→Q (.panic [{ v:=v,recovered:=false }]) a e.w) (hh:aReg t id ops draw K Kp σ h) (hs:Jz Γ.nt Γ.ds σ a e) (hw:WInv Γ h e) :
  (Code.region id ops draw).wp Γ.P Q a e.w:=by
 cases draw with
 | false=>exact wp_region_list (JlD ht hP hall hQ hQp ops.toList (fun _ h=>h) hdl hall σ h a e rfl (by simpa [aReg] using hh) hs hw)
 | true =>
  obtain⟨hlex,hnd⟩:=hd rfl
  have hnd:∀ o∈ops.toList,¬ Jgc o.op=true:=fun o ho=>by simpa using List.all_eq_true.1 hnd o ho
  obtain⟨w1,l1⟩:=hw.drewn
  refine wp_region_any hm ?_
  by_cases hlk:t.lk.contains id=true
  ·have h2:=Jh8 ht hP hall hnd hQ hQp ops.size _ σ h a _ rfl (by simp only[aReg,hlk,Bool.and_self,if_true]at hh; exact hh hw.fr) (hs.mono l1) w1
   simpa using h2
  have hlex:=hlex.resolve_left hlk
  simp only[aReg,hlk,Bool.and_false,if_false,Bool.false_eq_true]at hh
  have h0:∀ m,(Array.replicate ops.size false).getD m false=false:=fun m=>by
   simp only[Array.getD_eq_getD_getElem?,Array.getElem?_replicate]
   split <;> rfl
  have h1:=Jpm (t:=t) (ops:=ops) (K:=K) (Kp:=Kp) hpure hnp ops.toList 0 (Array.replicate ops.size false) σ h (by simp[unl]) hw.fr (fun m o _ hm=>by rw[h0]at hm; cases hm) (fun m hm=>by rw[h0]at hm; cases hm) (by simp) (by simpa [Jsi] using hlex) hh
  have h2:=Jh8 ht hP hall hnd hQ hQp ops.toList.length _ σ h a _ rfl h1 (hs.mono l1) w1
  simpa using h2
end
end Go.Proofs.Ytaofbminodhcnaa
namespace Go.Proofs.Ytaofbminodhcnaa
open Go.RowKit
structure Hp.Good (h:Hp):Prop where
 H:∀ n,h.nx≤n→h.H n=none
 T:∀ n,h.nx≤n→h.T n=none
 T0:h.T 0=none
 nx:0<h.nx
theorem WInv.good{Γ:Ctx}{h:Hp}{e:Env}(hw:WInv Γ h e):h.Good :=
 ⟨fun n hn=>(hw.fresh n hn).1,fun n hn=>(hw.fresh n hn).2.1,by
  cases hT:h.T 0 with
  | none=>rfl
  | some ty=>exact absurd rfl (hw.tok 0 ty hT).1,hw.nx0⟩
abbrev KA:=Exit→(Nat→AV)→Hp→Prop
structure Given (p q:Prop):Prop where
 get:p→q
def Jjm(lk:List Nat)(nt:Nat):Bool:=lk.all fun x=>x.blt 1000000 || x.beq (1000000+nt)
theorem Jjd{lk:List Nat}{nt n:Nat}(h:Jjm lk nt=true)(hn:lk.contains (1000000+n)=true):nt=n:=by
 have:=List.all_eq_true.1 h _ (by simpa using hn)
 simp only[Bool.or_eq_true,Nat.blt_eq,Nat.beq_eq]at this
 omega
def Jyd(P:Program)(lk:List Nat)(id:Nat)(ops:Array Oper)(draw:Bool)(σ:Nat→AV)(h:Hp)(σ2:Nat→AV)(h2:Hp):Prop :=
 lk.contains 999999=false∧∀ (Γ:Ctx) (a:Act) (e:Env),Γ.P=P→(∀ n,lk.contains (1000000+n)=true→Γ.nt=n)→Jz Γ.nt Γ.ds σ a e→WInv Γ h e →
  (Code.region id ops draw).wp P (fun ex a' w'=>ex=.normal∧∃ e',e'.w=w'∧Jz Γ.nt Γ.ds σ2 a' e'∧WInv Γ h2 e') a e.w
def KY(pure:Nat→Nat)(lk:List Nat)(nt:Nat):Code→Bool
 | .region id ops draw=>((ops.toList.all (opIn nt ops) && JfL ops.toList) && (!draw || ((lk.contains id || Jsi pure ops) && ops.toList.all fun o=>!Jgc o.op))) && Jjm lk nt
 | .seq a b=>(KY pure lk nt a && KY pure lk nt b) && Jjm lk nt
 | .cond c x y=>(match c with | .tmp t=>decide (t<nt) | _=>true) && KY pure lk nt x && KY pure lk nt y
 | .block _ b=>KY pure lk nt b && Jjm lk nt
 | .loop b=>KY pure lk nt b
 | _=>true
theorem Ji0{pure:Nat→Nat}{lk:List Nat}{nt n:Nat}{a b:Code}{id:Nat}{c:Code}(hc:c=.seq a b∨c=.block id b)(h:KY pure lk nt c=true)(hn:lk.contains (1000000+n)=true):nt=n:=by
 rcases hc with rfl | rfl <;> simp only[KY,Bool.and_eq_true]at h <;> exact Jjd h.2 hn
def SemC(t:Tab)(c:Code)(σ:Nat→AV)(h:Hp)(Q:KA):Prop :=
 t.lk.contains 999999=false∧∀ (Γ:Ctx) (pure:Nat→Nat) (a:Act) (e:Env),TabOk t→t.P=Γ.P→Γ.root.length=t.rt→Γ.P.follows .mixedOrders=true→(∀ n,pure n=0→(t.Φ n).isSome)→(∀ n,pure n=1→∀ g,t.G n g→∃ val bs ts,g.out=.ret val bs ts) →
  KY pure t.lk Γ.nt c=true→Jz Γ.nt Γ.ds σ a e→WInv Γ h e→c.wp Γ.P (fun ex a' w'=>∃ σ' h' e',Q ex σ' h'∧e'.w=w'∧Jz Γ.nt Γ.ds σ' a' e'∧WInv Γ h' e') a e.w
def aC(t:Tab):Code→(Nat→AV)→Hp→KA→Prop
 | .skip,σ,h,Q=>Q .normal σ h
 | .region id ops draw,σ,h,Q=>∃ σ1 h1,Wk t.rt σ h σ1 h1∧(aReg t id ops draw (Q .normal) (fun v h'=>Q (.panic [{ v:=v,recovered:=false }]) (Xc ops σ1) h') σ1 h1∨∃ σ2 h2,Jyd t.P t.lk id ops draw σ1 h1 σ2 h2∧Q .normal σ2 h2)
 | .seq a b,σ,h,Q=>(aC t a σ h (fun ex σ' h'=>match ex with | .normal=>∃ σ2 h2,Wk t.rt σ' h' σ2 h2∧Given h2.Good (aC t b σ2 h2 Q) | ex=>Q ex σ' h'))∨SemC t (.seq a b) σ h Q
 | .cond c x y,σ,h,Q=>match evA σ c with
  | .c (.d (.v (.bool p)))=>(p=true→aC t x σ h Q)∧(p=false→aC t y σ h Q)
  | _=>False
 | .block id b,σ,h,Q=>(aC t b σ h (fun ex σ' h'=>match ex with | .exit j=>if j=id then Q .normal σ' h' else Q (.exit j) σ' h' | ex=>Q ex σ' h'))∨SemC t (.block id b) σ h Q
 | .loop b,σ,h,Q=>∃ I:Nat→(Nat→AV)→Hp→Prop,(∃ n σ1 h1,Wk t.rt σ h σ1 h1∧I n σ1 h1)∧∀ n σ' h',I n σ' h'→h'.Good→aC t b σ' h' (fun ex σ'' h''=>match ex with | .normal=>∃ m σ3 h3,m<n∧Wk t.rt σ'' h'' σ3 h3∧I m σ3 h3 | ex=>Q ex σ'' h'')
 | .exit id,σ,h,Q=>Q (.exit id) σ h
 | .ret,σ,h,Q=>Q .ret σ h
 | _,_,_,_=>False
theorem Jbj{Γ:Ctx}{t:Tab}{pure:Nat→Nat}(ht:TabOk t)(hP:t.P=Γ.P)(hrt:Γ.root.length=t.rt)(hm:Γ.P.follows .mixedOrders=true)(hpure:∀ n,pure n=0→(t.Φ n).isSome)(hnp:∀ n,pure n=1→∀ g,t.G n g→∃ val bs ts,g.out=.ret val bs ts):
  ∀ (c:Code) (Q:KA) (Q':Exit→Act→World→Prop),KY pure t.lk Γ.nt c=true→(∀ ex σ h a e,Q ex σ h→Jz Γ.nt Γ.ds σ a e→WInv Γ h e→Q' ex a e.w) →
   ∀ (σ:Nat→AV) (h:Hp) (a:Act) (e:Env),aC t c σ h Q→Jz Γ.nt Γ.ds σ a e→WInv Γ h e→c.wp Γ.P Q' a e.w
 | .skip,Q,Q',_,hQ,σ,h,a,e,hh,hs,hw=>wp_skip (hQ _ _ _ _ _ hh hs hw)
 | .region id ops draw,Q,Q',hc,hQ,σ,h,a,e,hh,hs,hw=>by
  simp only[KY,Bool.and_eq_true,Bool.or_eq_true]at hc
  obtain⟨hc,hnt⟩:=hc
  obtain⟨σ1,h1,hwk,hh⟩:=hh
  obtain⟨e1,he,hs,hw⟩:=hwk Γ a e hrt hs hw
  rw[← he]
  rcases hh with hh | ⟨σ2,h2,hr,hq⟩
  case inr =>
   rw[← hP]
   exact Code.wp_mono (fun ex a' w' ⟨hx,e',h1,h2,h3⟩=>by subst hx; subst h1; exact hQ _ _ _ _ _ hq h2 h3) (hr.2 Γ a e1 hP.symm (fun n hn=>Jjd hnt hn) hs hw)
  exact JpE ht hP hm hpure hnp hc.1.1 (fun hd=>by rcases hc.2 with h | h; rw[hd]at h; cases h; exact h) hc.1.2 (fun σ h a e hk=>hQ _ σ h a e hk) (fun v h a e hk=>hQ _ _ h a e hk) hh hs hw
 | .seq x y,Q,Q',hc,hQ,σ,h,a,e,hh,hs,hw=>by
  rcases hh with hh | hh
  case inr=>exact Code.wp_mono (fun ex a' w' ⟨σ',h',e',k1,k2,k3,k4⟩=>by subst k2; exact hQ _ _ _ _ _ k1 k3 k4) (hh.2 Γ pure a e ht hP hrt hm hpure hnp hc hs hw)
  simp only[KY,Bool.and_eq_true]at hc
  have hc:=hc.1
  refine wp_seq (Jbj ht hP hrt hm hpure hnp x _ _ hc.1 (fun ex σ h a e hk hs hw=>?_) σ h a e hh hs hw)
  cases ex with
  | normal =>
   obtain⟨σ2,h2,hwk,hk⟩:=hk
   obtain⟨e2,he,hs2,hw2⟩:=hwk Γ a e hrt hs hw
   rw[← he]
   exact Jbj ht hP hrt hm hpure hnp y Q Q' hc.2 hQ σ2 h2 a e2 (hk.get hw2.good) hs2 hw2
  | exit id=>exact hQ _ _ _ _ _ hk hs hw
  | goto l=>exact hQ _ _ _ _ _ hk hs hw
  | ret=>exact hQ _ _ _ _ _ hk hs hw
  | panic ch=>exact hQ _ _ _ _ _ hk hs hw
  | outgrown=>exact hQ _ _ _ _ _ hk hs hw
 | .cond c x y,Q,Q',hc,hQ,σ,h,a,e,hh,hs,hw=>by
  simp only[KY,Bool.and_eq_true]at hc
  simp only[aC]at hh
  split at hh
  ·rename_i p hp
   have hr:=Jq7 hs c (fun t ht=>by subst ht; simpa using hc.1.1)
   rw[hp]at hr
   have hr:=R1.vInv hr
   exact wp_cond_split hr (fun h1=>Jbj ht hP hrt hm hpure hnp x Q Q' hc.1.2 hQ σ h a e (hh.1 h1) hs hw) (fun h1=>Jbj ht hP hrt hm hpure hnp y Q Q' hc.2 hQ σ h a e (hh.2 h1) hs hw)
  ·exact hh.elim
 | .block id b,Q,Q',hc,hQ,σ,h,a,e,hh,hs,hw=>by
  rcases hh with hh | hh
  case inr=>exact Code.wp_mono (fun ex a' w' ⟨σ',h',e',k1,k2,k3,k4⟩=>by subst k2; exact hQ _ _ _ _ _ k1 k3 k4) (hh.2 Γ pure a e ht hP hrt hm hpure hnp hc hs hw)
  simp only[KY,Bool.and_eq_true]at hc
  refine wp_block (Jbj ht hP hrt hm hpure hnp b _ _ hc.1 (fun ex σ h a e hk hs hw=>?_) σ h a e hh hs hw)
  cases ex with
  | normal=>exact hQ _ _ _ _ _ hk hs hw
  | exit j =>
   simp only[Exit.inBlock]
   simp only at hk
   split at hk
   ·rename_i hj; rw[if_pos hj]; exact hQ _ _ _ _ _ hk hs hw
   ·rename_i hj; rw[if_neg hj]; exact hQ _ _ _ _ _ hk hs hw
  | goto l=>exact hQ _ _ _ _ _ hk hs hw
  | ret=>exact hQ _ _ _ _ _ hk hs hw
  | panic ch=>exact hQ _ _ _ _ _ hk hs hw
  | outgrown=>exact hQ _ _ _ _ _ hk hs hw
 | .loop b,Q,Q',hc,hQ,σ,h,a,e,hh,hs,hw=>by
  obtain⟨I,⟨n₀,σ1,h1,hwk,h0⟩,hround⟩:=hh
  obtain⟨e1,he,hs1,hw1⟩:=hwk Γ a e hrt hs hw
  refine wp_loop_ghost (fun n a' w'=>∃ σ' h' e',e'.w=w'∧I n σ' h'∧Jz Γ.nt Γ.ds σ' a' e'∧WInv Γ h' e') n₀ ⟨σ1,h1,e1,he,h0,hs1,hw1⟩ ?_
  rintro n a' w' ⟨σ',h',e',rfl,hI,hs',hw'⟩
  refine Jbj ht hP hrt hm hpure hnp b _ _ hc (fun ex σ h a e hk hs hw=>?_) σ' h' a' e' (hround n σ' h' hI hw'.good) hs' hw'
  cases ex with
  | normal =>
   obtain⟨m,σ3,h3,hm,hwk,hI'⟩:=hk
   obtain⟨e3,he3,hs3,hw3⟩:=hwk Γ a e hrt hs hw
   exact⟨m,hm,σ3,h3,e3,he3,hI',hs3,hw3⟩
  | exit id=>exact hQ _ _ _ _ _ hk hs hw
  | goto l=>exact hQ _ _ _ _ _ hk hs hw
  | ret=>exact hQ _ _ _ _ _ hk hs hw
  | panic ch=>exact hQ _ _ _ _ _ hk hs hw
  | outgrown=>exact hQ _ _ _ _ _ hk hs hw
 | .exit id,Q,Q',_,hQ,σ,h,a,e,hh,hs,hw=>wp_exit (hQ _ _ _ _ _ hh hs hw)
 | .ret,Q,Q',_,hQ,σ,h,a,e,hh,hs,hw=>wp_ret (hQ _ _ _ _ _ hh hs hw)
 | .rangeFunc _ _ _ _,_,_,_,_,_,_,_,_,hh,_,_=>hh.elim
 | .scope _,_,_,_,_,_,_,_,_,hh,_,_=>hh.elim
 | .label _,_,_,_,_,_,_,_,_,hh,_,_=>hh.elim
 | .goto _,_,_,_,_,_,_,_,_,hh,_,_=>hh.elim
 | .refuse _,_,_,_,_,_,_,_,_,hh,_,_=>hh.elim
theorem Jl{P:Program}{f:Nat}{fn:Func}(hf:P.funcs[f]? = some fn)(hn:(fn.name == "runtime.NumGoroutine")=false)(hb:fn.body.isNone=false):Jh P f:=by
 intro args w
 simp only[callFunc,Sem.run_bind,run_program,Result.andThen_ok,hf,hn,hb,Bool.false_eq_true,if_false,Sem.run_pure]
def sig0(args:List AV):Nat→AV:=fun i=>args.getD i VV
theorem JrU{args:List AV}(h:args.length≤DS):dfL (sig0 args DS)=[]:=by
 unfold sig0
 rw[List.getD_eq_getElem?_getD,List.getElem?_eq_none h]
 rfl
theorem RDf.nil{e:Env}{a:AV}{l:List Deferred}(h:dfL a=[])(k:RDf e [] a l):l=[]:=by
 obtain⟨r,h1,h2⟩:=k
 rw[h]at h2
 cases r with
 | nil=>simpa using h1
 | cons _ _=>exact h2.elim
def hp0:Hp:=⟨fun _=>none,fun _=>none,1⟩
def Jck(P:Program)(σ:Nat→AV)(h:Hp):ResultVar→Prop×D
 | .tmp t=>((σ t).isD=true,(σ t).toD)
 | .cell a ty=>match σ a with
  | .c (.pt n 0)=>match h.H n with
   | some row=>(rowP row=true∧(KL P h ty row 0).pre∧(KL P h ty row 0).val.isD=true,(KL P h ty row 0).val.toD)
   | none=>(False,.v undef)
  | _=>(False,.v undef)
def Jag(nt:Nat):ResultVar→Bool
 | .tmp t=>decide (t<nt)
 | .cell a _=>decide (a<nt)
def Je5:List D→D
 | [d]=>d
 | l=>.tu l
def le0:D→D→Prop
 | .sl sz l,.sl sz' l'=>l=l'∧(sz=sz'∨l=[])
 | x,y=>x=y
def les0:List D→List D→Prop
 | [],[]=>True
 | x::l,y::m=>le0 x y∧les0 l m
 | _,_=>False
def le1:D→D→Prop
 | .ag l,.ag m=>les0 l m
 | x,y=>le0 x y
def les1:List D→List D→Prop
 | [],[]=>True
 | x::l,y::m=>le1 x y∧les1 l m
 | _,_=>False
def le2:D→D→Prop
 | .tu l,.tu m=>les1 l m
 | x,y=>le1 x y
theorem Jth{w:World}{S:Nat→Nat→Prop}{x y:D}{v:Value}(h:le0 x y)(k:R1 w S x v):R1 w S y v:=by
 unfold le0 at h
 split at h
 ·obtain⟨rfl,h⟩:=h
  exact k.resize h.symm
 ·subst h; exact k
theorem Jrl{w:World}{S:Nat→Nat→Prop}:∀ {l m:List D} {vs:List Value},les0 l m→Rn w S l vs→Rn w S m vs
 | [],[],_,_,k=>k
 | _::_,_::_,_,⟨h1,h2⟩,k=>by cases k with | acons _ _ _ _ k1 k2=>exact .acons _ _ _ _ (Jth h1 k1) (Jrl h2 k2)
 | [],_::_,_,h,_=>h.elim
 | _::_,[],_,h,_=>h.elim
theorem Jts{w:World}{S:Nat→Nat→Prop}{x y:D}{v:Value}(h:le1 x y)(k:R1 w S x v):R1 w S y v:=by
 unfold le1 at h
 split at h
 ·obtain⟨vs,rfl,k2⟩:=R1.agInv k
  exact .ag _ _ (Jrl h k2)
 ·exact Jth h k
theorem JlT{w:World}{S:Nat→Nat→Prop}:∀ {l m:List D} {vs:List Value},les1 l m→Rn w S l vs→Rn w S m vs
 | [],[],_,_,k=>k
 | _::_,_::_,_,⟨h1,h2⟩,k=>by cases k with | acons _ _ _ _ k1 k2=>exact .acons _ _ _ _ (Jts h1 k1) (JlT h2 k2)
 | [],_::_,_,h,_=>h.elim
 | _::_,[],_,h,_=>h.elim
theorem JxM{w:World}{S:Nat→Nat→Prop}{x y:D}{v:Value}(h:le2 x y)(k:R1 w S x v):R1 w S y v:=by
 unfold le2 at h
 split at h
 ·obtain⟨vs,rfl,k2⟩:=R1.tuInv k
  exact .tu _ _ (JlT h k2)
 ·exact Jts h k
def JcS:D→D
 | .sl _ l=>.sl 0 l
 | d=>d
def VC:D→D
 | .ag l=>.ag (l.map JcS)
 | d=>JcS d
theorem JtN{x y:D}(h:le0 x y):JcS x=JcS y:=by
 unfold le0 at h
 split at h
 ·obtain⟨rfl,_⟩:=h; rfl
 ·subst h; rfl
theorem Jlp:∀ {l m:List D},les0 l m→l.map JcS=m.map JcS
 | [],[],_=>rfl
 | _::_,_::_,⟨h1,h2⟩=>by rw[List.map_cons,List.map_cons,JtN h1,Jlp h2]
 | [],_::_,h=>h.elim
 | _::_,[],h=>h.elim
theorem JtR{x y:D}(h:le1 x y):VC x=VC y:=by
 unfold le1 at h
 split at h
 ·simp only[VC,Jlp h]
 ·unfold le0 at h
  split at h
  ·obtain⟨rfl,_⟩:=h; rfl
  ·subst h; rfl
theorem Jh2:∀ {l m:List D},les1 l m→l.map VC=m.map VC
 | [],[],_=>rfl
 | _::_,_::_,⟨h1,h2⟩=>by rw[List.map_cons,List.map_cons,JtR h1,Jh2 h2]
 | [],_::_,h=>h.elim
 | _::_,[],h=>h.elim
theorem Ju0(x:D):le0 x x:=by cases x <;> simp[le0]
theorem JmR:∀ l:List D,les0 l l
 | []=>trivial
 | x::l=>⟨Ju0 x,JmR l⟩
theorem JuO(x:D):le1 x x:=by cases x <;> simp[le1,le0,JmR]
theorem Jg1:∀ l:List D,les1 l l
 | []=>trivial
 | x::l=>⟨JuO x,Jg1 l⟩
def aRet(P:Program)(rs:List ResultVar)(σ:Nat→AV)(h:Hp)(d:D):Prop :=
 (∀ r∈rs,(Jck P σ h r).1)∧le2 (Je5 (rs.map fun r=>(Jck P σ h r).2)) d
theorem Jve{Γ:Ctx}{σ:Nat→AV}{h:Hp}{a:Act}{e:Env}(hs:Jz Γ.nt Γ.ds σ a e)(hw:WInv Γ h e){r:ResultVar}(hin:Jag Γ.nt r=true)(hp:(Jck Γ.P σ h r).1):
  ∃ v,(match r with | .tmp t=>pure (a.tmps.getD t undef) | .cell x ty=>do loadVar ty (← asAddr (a.tmps.getD x undef)):Sem Value).run Γ.P e.w=.ok v e.w∧R1 e.w e.S (Jck Γ.P σ h r).2 v:=by
 cases r with
 | tmp t =>
  simp only[Jag,decide_eq_true_eq]at hin
  exact⟨_,by simp,(hs.2.2 t hin).toD hp⟩
 | cell x ty =>
  simp only[Jag,decide_eq_true_eq]at hin
  have hx:=hs.2.2 x hin
  simp only[Jck]at hp ⊢
  split at hp
  ·rename_i n hσ
   split at hp
   ·rename_i row hrow
    rw[hσ]at hx
    obtain⟨b,h2,h3⟩:=hx
    obtain⟨b',cs,ty',h4,h5,h6,h7,_⟩:=hw.boxAt h2 row hrow (ZO hp.1)
    rw[h2]at h4
    simp at h4
    subst h4
    obtain⟨v,h8,h9⟩:=Jfq (b:=b) (o:=0) hp.2.1 (h6.plain hp.1) (fun i x hx=>by simp[World.cell?,h5]; simpa using hx)
    refine⟨v,?_,h9.toD hp.2.2⟩
    simp only[Nat.zero_add]at h8
    simp only[h3,asAddr,Sem.run_bind,Sem.run_pure,Result.andThen_ok]
    simpa [Instr.loadAt,Instr.sureAddr] using h8
   ·exact hp.elim
  ·exact hp.elim
theorem Jj9{Γ:Ctx}{σ:Nat→AV}{h:Hp}{a:Act}{e:Env}(hs:Jz Γ.nt Γ.ds σ a e)(hw:WInv Γ h e):∀ (rs:List ResultVar),(rs.all (Jag Γ.nt))=true→(∀ r∈rs,(Jck Γ.P σ h r).1) →
  ∃ vs,(rs.mapM fun r=>(match r with | .tmp t=>pure (a.tmps.getD t undef) | .cell x ty=>do loadVar ty (← asAddr (a.tmps.getD x undef)):Sem Value)).run Γ.P e.w=.ok vs e.w∧Rn e.w e.S (rs.map fun r=>(Jck Γ.P σ h r).2) vs
 | [],_,_=>⟨[],by simp,.anil⟩
 | r::rs,hin,hp=>by
  simp only[List.all_cons,Bool.and_eq_true]at hin
  obtain⟨v,h1,h2⟩:=Jve hs hw hin.1 (hp r (by simp))
  obtain⟨vs,h3,h4⟩:=Jj9 hs hw rs hin.2 (fun r hr=>hp r (by simp[hr]))
  refine⟨v::vs,?_,.acons _ _ _ _ h2 h4⟩
  rw[List.mapM_cons,Sem.run_bind,h1,Result.andThen_ok,Sem.run_bind,h3]
  rfl
theorem JoB{Γ:Ctx}{σ:Nat→AV}{h:Hp}{a:Act}{e:Env}{fn:Func}{d:D}(hs:Jz Γ.nt Γ.ds σ a e)(hw:WInv Γ h e)(hin:(fn.results.toList.all (Jag Γ.nt))=true)(hr:aRet Γ.P fn.results.toList σ h d):
  ∃ v,(results fn a.tmps).run Γ.P e.w=.ok v e.w∧R1 e.w e.S d v:=by
 obtain⟨vs,h1,h2⟩:=Jj9 hs hw fn.results.toList hin hr.1
 have hle:=hr.2
 suffices hsuf:∃ v,(results fn a.tmps).run Γ.P e.w=.ok v e.w∧R1 e.w e.S (Je5 (fn.results.toList.map fun r=>(Jck Γ.P σ h r).2)) v by
  obtain⟨v,k1,k2⟩:=hsuf
  exact⟨v,k1,JxM hle k2⟩
 have hd:Je5 (fn.results.toList.map fun r=>(Jck Γ.P σ h r).2)=Je5 (fn.results.toList.map fun r=>(Jck Γ.P σ h r).2):=rfl
 generalize hdd:Je5 (fn.results.toList.map fun r=>(Jck Γ.P σ h r).2)=d at hd ⊢
 have hd:=hdd
 have hrun:(fn.results.mapM fun r=>(match r with | .tmp t=>pure (a.tmps.getD t undef) | .cell x ty=>do loadVar ty (← asAddr (a.tmps.getD x undef)):Sem Value)).run Γ.P e.w=.ok vs.toArray e.w:=by
  rw[Array.mapM_eq_mapM_toList,Sem.run_map,h1]; rfl
 refine⟨if h:vs.toArray.size=1 then vs.toArray[0] else .tuple vs.toArray,?_,?_⟩
 ·unfold results
  rw[Sem.run_bind]
  erw [hrun]
  rfl
 ·generalize (fn.results.toList.map fun r=>(Jck Γ.P σ h r).2)=ds at h2 hd
  cases ds with
  | nil=>cases h2; subst hd; exact .tu _ _ .anil
  | cons x ds =>
   cases ds with
   | nil =>
    cases h2 with
    | acons _ v _ vs h3 h4=>cases h4; subst hd; simpa [Je5] using h3
   | cons y ds =>
    cases h2 with
    | acons _ v _ vs h3 h4 =>
     cases h4 with
     | acons _ u _ us h5 h6 =>
      subst hd
      simp only[Je5]
      rw[dif_neg (by simp)]
      exact .tu _ _ (.acons _ _ _ _ h3 (.acons _ _ _ _ h5 h6))
def QRet(P:Program)(fn:Func)(d:D):KA:=fun ex σ h =>
 match ex with
 | .ret=>aRet P fn.results.toList σ h d∧dfL (σ DS)=[]
 | .normal=>aRet P fn.results.toList σ h d∧dfL (σ DS)=[]
 | _=>False
def JkW(P:Program)(rt:Nat)(fn:Func)(d:D):KA:=fun ex σ h=>∃ σ' h',Wk rt σ h σ' h'∧QRet P fn d ex σ' h'
theorem JsM{t:Tab}{pure:Nat→Nat}(ht:TabOk t)(hm:t.P.follows .mixedOrders=true)(hpure:∀ n,pure n=0→(t.Φ n).isSome)(hnp:∀ n,pure n=1→∀ g,t.G n g→∃ val bs ts,g.out=.ret val bs ts){f:Nat}{fn:Func}{c:Code}(hf:t.P.funcs[f]? = some fn)(hb:fn.body=some c)
  (hcode:(KY pure t.lk fn.ntmps c && fn.results.toList.all (Jag fn.ntmps) && fn.ntmps.ble DS)=true) (pf:PF)
  (h:∀ args,pf.pre args→args.length≤fn.ntmps∧t.rt=0∧∃ σ h,Wk t.rt (sig0 (args.map fun d=>.c (.d d))) hp0 σ h∧(h.Good→aC t c σ h (JkW t.P t.rt fn (pf.val args)))):Kl t.P f pf:=by
 simp only[Bool.and_eq_true]at hcode
 intro w S args vs hG hargs hS hp
 obtain⟨hn,hrt,σ1,h1,hwk,hC⟩:=h args hp
 have hlen:=hargs.length
 refine calls_of_wp hf hb ?_
 let Γ:Ctx:=⟨t.P,w,w.heap.size,S,fun _=>False,fn.ntmps,[],[]⟩
 let e:Env:=⟨w,S,fun _=>none,fun _=>none,fun _ _=>False⟩
 have hw:WInv Γ hp0 e:=by
  constructor
  ·exact⟨hG,fun q hq=>⟨let ⟨_,_,h1,_⟩:=hG q hq; (Array.getElem?_eq_some_iff.1 h1).1,fun h=>h⟩⟩
  ·rfl
  ·rfl
  ·rfl
  ·exact Nat.le_refl _
  ·exact Nat.le_refl _
  ·intro b _ _; rfl
  ·exact hS
  ·intro b o h _; exact h
  ·exact hS
  ·exact Keep.refl _ _
  ·intro n row h; cases h
  ·intro n m b h; exact absurd rfl h
  ·intro k ty h; cases h
  ·intro k m v u b h; exact absurd rfl h
  ·intro n _; exact⟨rfl,rfl,rfl,rfl,fun _ h=>h⟩
  ·exact Nat.one_pos
  ·exact⟨Nat.one_pos,fun i x hx=>by simp[Γ]at hx⟩
  ·exact⟨fun n m h=>absurd rfl h,fun n row j Φ h=>by cases h⟩
 have hs:Jz Γ.nt Γ.ds (sig0 (args.map fun d=>.c (.d d))) { tmps:=(⟨vs⟩:Array Value)++Array.replicate (fn.ntmps-(⟨vs⟩:Array Value).size) undef,defers:=[] } e:=by
  refine⟨by simp[hlen,Γ]; omega,⟨⟨[],rfl,by rw[JrU (by simp; have:=Nat.le_of_ble_eq_true hcode.2; omega)]; trivial⟩,Nat.le_of_ble_eq_true hcode.2⟩,fun i hi=>?_⟩
  rcases Nat.lt_or_ge i args.length with hlt | hge
  ·obtain⟨v,h1,h2⟩:=hargs.get i args[i] (List.getElem?_eq_getElem hlt)
   have e1:sig0 (args.map fun d=>AV.c (.d d)) i=.c (.d args[i]):=by simp[sig0,hlt]
   have e2:((⟨vs⟩:Array Value)++Array.replicate (fn.ntmps-(⟨vs⟩:Array Value).size) undef).getD i undef=v:=by
    have hiv:i<vs.length:=by omega
    simp only[Array.getD_eq_getD_getElem?]
    rw[Array.getElem?_append_left (by simpa using hiv)]
    simp[h1]
   rw[e1,e2]
   exact h2
  ·have e1:sig0 (args.map fun d=>AV.c (.d d)) i=VV:=by simp[sig0,hge]
   have e2:((⟨vs⟩:Array Value)++Array.replicate (fn.ntmps-(⟨vs⟩:Array Value).size) undef).getD i undef=undef:=by
    simp only[Array.getD_eq_getD_getElem?]
    rw[Array.getElem?_append_right (by simp; omega),Array.getElem?_replicate]
    split <;> rfl
   rw[e1,e2]
   exact RA.undef e
 obtain⟨e1,he1,hs1,hw1⟩:=hwk Γ _ e hrt.symm hs hw
 have he1':e1.w=w:=he1
 suffices hsuf:∀ w1,w1=e1.w→c.wp t.P (bodyPost t.P fn (fun en w'=>∃ v,en=Ending.returned v∧Grows w w'∧R1 w' S (pf.val args) v)) { tmps:=(⟨vs⟩:Array Value)++Array.replicate (fn.ntmps-(⟨vs⟩:Array Value).size) undef,defers:=[] } w1 from hsuf w he1'.symm
 rintro _ rfl
 refine Jbj (Γ:=Γ) (t:=t) (pure:=pure) ht rfl hrt.symm hm hpure hnp c _ _ hcode.1.1 (fun ex σ h a e2 hk hs2 hw2=>?_) _ _ _ e1 (hC hw1.good) hs1 hw1
 obtain⟨σ,h,hwk,hk⟩:=hk
 obtain⟨e',he',hs',hw'⟩:=hwk Γ a e2 hrt.symm hs2 hw2
 rw[← he']
 have fin:aRet t.P fn.results.toList σ h (pf.val args)∧dfL (σ DS)=[]→a.defers=[]∧∃ v,(results fn a.tmps).run t.P e'.w=.ok v e'.w∧∃ v',Ending.returned v=.returned v'∧Grows w e'.w∧R1 e'.w S (pf.val args) v':=fun hr=>by
  obtain⟨v,h1,h2⟩:=JoB (Γ:=Γ) hs' hw' hcode.1.2 hr.1
  refine⟨hs'.2.1.1.nil hr.2,v,h1,v,rfl,⟨hw'.os,hw'.tape,hw'.output,hw'.grown,fun k hk=>hw'.old k hk (fun h=>h.elim)⟩,RD.mono ⟨fun b o x hc hS'=>⟨hc,fun h=>hS' (hw'.s0 b o h (fun h=>h.elim))⟩,fun b es k hc hS'=>⟨hc,fun h=>hS' (hw'.s0 b 0 h (fun h=>h.elim))⟩⟩ h2⟩
 cases ex with
 | normal=>exact fin hk
 | ret=>exact fin hk
 | exit id=>exact hk.elim
 | goto l=>exact hk.elim
 | panic ch=>exact hk.elim
 | outgrown=>exact hk.elim
end Go.Proofs.Ytaofbminodhcnaa
namespace Go.Proofs.Ytaofbminodhcnaa
open Go.RowKit
structure RdO where
 dst:Option Tmp
 op:Op
 g:Option (Tmp×Bool)
def roOf(ops:Array Oper)(o:Oper):RdO:=⟨o.dst,o.op,match o.guard with | none=>none | some (j,want)=>match Jez ops j with | none=>none | some d=>some (d,want)⟩
def Zi(ops:Array Oper)(o:Oper):Bool:=match o.guard with | none=>true | some (j,_)=>(Jez ops j).isSome
def Jea(p:Bool):AV:=.c (.d (.v (.bool p)))
def aGd(σ:Nat→AV)(g:Option (Tmp×Bool))(run skip:(Nat→AV)→Prop):Prop :=
 match g with
 | none=>run σ
 | some (d,want)=>match σ d with
  | .c (.d (.v (.bool p)))=>(p=want→run (upd σ d (Jea want)))∧(p=!want→skip (upd σ d (Jea !want)))
  | .c (.d (.v (.tuple _)))=>skip σ
  | _=>False
def aRO(t:Tab)(K:(Nat→AV)→Hp→Prop):List RdO→(Nat→AV)→Hp→Prop
 | [],σ,h=>K σ h
 | o::l,σ,h=>aGd σ o.g (fun σ=>(aop t.P t.Φ t.Ψ o.op σ h).pre∧aRO t K l (putA σ o.dst (aop t.P t.Φ t.Ψ o.op σ h).val) (aop t.P t.Φ t.Ψ o.op σ h).h) (fun σ=>aRO t K l (putA σ o.dst VV) h)
theorem Jgp{σ:Nat→AV}{d:Nat}{p q:Bool}(h:σ d=.c (.d (.v (.bool p))))(hp:p=q):upd σ d (Jea q)=σ:=by
 funext i
 by_cases hi:i=d
 ·subst hi; simp[upd,Jea,h,hp]
 ·simp[upd,hi]
def aRG(t:Tab)(K:(Nat→AV)→Hp→Prop)(Kp:Value→Hp→Prop):List RdO→(Nat→AV)→Hp→Prop
 | [],σ,h=>K σ h
 | o::l,σ,h=>aGd σ o.g (fun σ=>aRun t o.op o.dst (aRG t K Kp l) Kp σ h) (fun σ=>aRG t K Kp l (putA σ o.dst VV) h)
theorem JhU{t:Tab}{ops:Array Oper}{K:(Nat→AV)→Hp→Prop}{Kp:Value→Hp→Prop}:∀ (l:List Oper) (σ:Nat→AV) (h:Hp),(l.all (Zi ops))=true→aRG t K Kp (l.map (roOf ops)) σ h→aOps t ops K Kp l σ h
 | [],_,_,_,hh=>hh
 | o::l,σ,h,hg,hh=>by
  simp only[List.all_cons,Bool.and_eq_true]at hg
  simp only[List.map_cons,aRG]at hh
  simp only[aOps,aOp]
  have ih:=fun σ h=>JhU (K:=K) (Kp:=Kp) (t:=t) (ops:=ops) l σ h hg.2
  have h1:=hg.1
  unfold Zi at h1
  unfold aGd roOf at hh
  unfold J9
  split
  ·rename_i hgd; rw[hgd]at hh; exact X3 (fun _ _=>ih _ _) (fun _ _ x=>x) hh
  ·rename_i j want hgd
   rw[hgd]at hh h1
   simp only at hh h1
   split
   ·rename_i hs; rw[hs]at h1; cases h1
   ·rename_i d hs
    rw[hs]at hh
    simp only at hh
    split
    ·rename_i p hp
     rw[hp]at hh
     refine⟨fun x=>?_,fun x=>?_⟩
     ·have:=hh.1 x
      rw[Jgp hp x]at this
      exact X3 (fun _ _=>ih _ _) (fun _ _ x=>x) this
     ·have:=hh.2 x
      rw[Jgp hp x]at this
      exact ih _ _ this
    ·rename_i hp; rw[hp]at hh; exact ih _ _ hh
    ·rename_i h2 h3
     split at hh
     ·rename_i p hp; exact(h2 _ hp).elim
     ·rename_i vs hp; exact(h3 _ hp).elim
     ·exact hh.elim
theorem Jis{t:Tab}{op:Op}{σ:Nat→AV}{h:Hp}(hp:(aop t.P t.Φ t.Ψ op σ h).pre):J3 t σ op=none∧¬ isDP op=true:=by
 refine⟨?_,fun hd=>?_⟩
 ·cases hg:J3 t σ op with
  | none=>rfl
  | some x =>
   exfalso
   unfold J3 at hg
   split at hg
   case h_2=>cases hg
   rename_i c
   obtain⟨callee,args,ts⟩:=c
   simp only at hg
   split at hg
   case h_2=>cases hg
   rename_i f
   simp only[aop,JeP]at hp
   split at hg
   ·rename_i n fs cs hev
    split at hg
    case isFalse=>cases hg
    rename_i hc
    rw[hev]at hp
    simp only[Option.isNone_iff_eq_none]at hc
    simp only[hc.2.2.1,hc.2.2.2]at hp
    exact hp
   ·rename_i n ns hev
    rw[hev]at hp
    exact hp
   ·cases hg
 ·cases op <;> first | (cases hd; done) | exact hp
theorem Jhf{t:Tab}{K:(Nat→AV)→Hp→Prop}{Kp:Value→Hp→Prop}{l2:List RdO}:∀ {l1:List RdO} {σ:Nat→AV} {h:Hp},aRO t (aRG t K Kp l2) l1 σ h→aRG t K Kp (l1++l2) σ h
 | [],_,_,hh=>hh
 | o::l1,σ,h,hh=>by
  simp only[aRO,aRG,List.cons_append]at hh ⊢
  unfold aGd at *
  have run:∀ σ,((aop t.P t.Φ t.Ψ o.op σ h).pre∧aRO t (aRG t K Kp l2) l1 (putA σ o.dst (aop t.P t.Φ t.Ψ o.op σ h).val) (aop t.P t.Φ t.Ψ o.op σ h).h)→aRun t o.op o.dst (aRG t K Kp (l1++l2)) Kp σ h:=fun σ x=>by
   obtain⟨q1,q2⟩:=Jis x.1
   unfold aRun
   rw[q1]
   simp only
   rw[if_neg q2]
   exact⟨x.1,Jhf x.2⟩
  split at hh
  ·exact run _ hh
  ·split at hh
   ·exact⟨fun x=>run _ (hh.1 x),fun x=>Jhf (hh.2 x)⟩
   ·exact Jhf hh
   ·exact hh.elim
theorem Jgi{t:Tab}{K K':(Nat→AV)→Hp→Prop}(hk:∀ σ h,K σ h→K' σ h):∀ {l:List RdO} {σ:Nat→AV} {h:Hp},aRO t K l σ h→aRO t K' l σ h
 | [],_,_,hh=>hk _ _ hh
 | o::l,σ,h,hh=>by
  simp only[aRO]at hh ⊢
  unfold aGd at *
  split at hh
  ·exact⟨hh.1,Jgi hk hh.2⟩
  ·split at hh
   ·exact⟨fun x=>⟨(hh.1 x).1,Jgi hk (hh.1 x).2⟩,fun x=>Jgi hk (hh.2 x)⟩
   ·exact Jgi hk hh
   ·exact hh.elim
theorem Jtc{t:Tab}{K:(Nat→AV)→Hp→Prop}{Kp:Value→Hp→Prop}{l:List RdO}{σ:Nat→AV}{h:Hp}(hh:aRO t K l σ h):aRG t K Kp l σ h:=by
 have:=Jhf (l2:=[]) (K:=K) (Kp:=Kp) (l1:=l) (Jgi (fun _ _ x=>x) hh)
 simpa using this
def JoF(r:AR)(t:Tab)(K:(Nat→AV)→Hp→Prop)(dst:Option Tmp)(l:List RdO)(σ:Nat→AV):Prop:=r.pre∧aRO t K l (putA σ dst r.val) r.h
def aGdS(v:AV)(d:Tmp)(w:Bool)(t:Tab)(K:(Nat→AV)→Hp→Prop)(dst:Option Tmp)(op:Op)(l:List RdO)(σ:Nat→AV)(h:Hp):Prop :=
 match v with
 | .c (.d (.v (.bool p)))=>(p=w→JoF (aop t.P t.Φ t.Ψ op (upd σ d (Jea w)) h) t K dst l (upd σ d (Jea w)))∧(p=!w→aRO t K l (putA (upd σ d (Jea !w)) dst VV) h)
 | .c (.d (.v (.tuple _)))=>aRO t K l (putA σ dst VV) h
 | _=>False
theorem Jrc(t:Tab)(K:(Nat→AV)→Hp→Prop)(σ:Nat→AV)(h:Hp):aRO t K [] σ h=K σ h:=rfl
theorem Jpq(t:Tab)(K:(Nat→AV)→Hp→Prop)(dst:Option Tmp)(op:Op)(l:List RdO)(σ:Nat→AV)(h:Hp):aRO t K (⟨dst,op,none⟩::l) σ h=JoF (aop t.P t.Φ t.Ψ op σ h) t K dst l σ:=rfl
theorem Jqg(t:Tab)(K:(Nat→AV)→Hp→Prop)(dst:Option Tmp)(op:Op)(d:Tmp)(w:Bool)(l:List RdO)(σ:Nat→AV)(h:Hp):aRO t K (⟨dst,op,some (d,w)⟩::l) σ h=aGdS (σ d) d w t K dst op l σ h:=rfl
theorem Jqd(p:Prop)(v:AV)(h:Hp)(t:Tab)(K:(Nat→AV)→Hp→Prop)(dst:Option Tmp)(l:List RdO)(σ:Nat→AV):JoF ⟨p,v,h⟩ t K dst l σ=(p∧aRO t K l (putA σ dst v) h):=rfl
theorem JmY(p:Bool)(d:Tmp)(w:Bool)(t:Tab)(K:(Nat→AV)→Hp→Prop)(dst:Option Tmp)(op:Op)(l:List RdO)(σ:Nat→AV)(h:Hp):
  aGdS (.c (.d (.v (.bool p)))) d w t K dst op l σ h=if p=w then JoF (aop t.P t.Φ t.Ψ op (upd σ d (Jea w)) h) t K dst l (upd σ d (Jea w)) else aRO t K l (putA (upd σ d (Jea !w)) dst VV) h:=by
 cases p <;> cases w <;> simp[aGdS]
theorem JpM(vs:Array Value)(d:Tmp)(w:Bool)(t:Tab)(K:(Nat→AV)→Hp→Prop)(dst:Option Tmp)(op:Op)(l:List RdO)(σ:Nat→AV)(h:Hp):
  aGdS (.c (.d (.v (.tuple vs)))) d w t K dst op l σ h=aRO t K l (putA σ dst VV) h:=rfl
theorem Jly(d:Tmp)(w:Bool)(t:Tab)(K:(Nat→AV)→Hp→Prop)(dst:Option Tmp)(op:Op)(l:List RdO)(σ:Nat→AV)(h:Hp):
  aGdS (.c (.d (.v undef))) d w t K dst op l σ h=aRO t K l (putA σ dst VV) h:=rfl
def Then(t:Tab)(b:Code)(Q:KA):KA:=fun ex σ h=>match ex with | .normal=>∃ σ2 h2,Wk t.rt σ h σ2 h2∧Given h2.Good (aC t b σ2 h2 Q) | ex=>Q ex σ h
def Jex(id:Nat)(Q:KA):KA:=fun ex σ h=>match ex with | .exit j=>if j=id then Q .normal σ h else Q (.exit j) σ h | ex=>Q ex σ h
def Jll(rt:Nat)(n:Nat)(I:Nat→(Nat→AV)→Hp→Prop)(Q:KA):KA:=fun ex σ h=>match ex with | .normal=>∃ m σ3 h3,m<n∧Wk rt σ h σ3 h3∧I m σ3 h3 | ex=>Q ex σ h
def Cut(rt:Nat)(R:(Nat→AV)→Hp→Prop)(Q:KA):KA:=fun ex σ h=>match ex with | .normal=>∃ σ2 h2,Wk rt σ h σ2 h2∧R σ2 h2 | ex=>Q ex σ h
variable {t:Tab} {σ:Nat→AV} {h:Hp} {Q:KA}
theorem Zn{a b:Code}(hh:aC t a σ h (Then t b Q)):aC t (.seq a b) σ h Q:=.inl hh
theorem SemC.mono{t:Tab}{c:Code}{σ:Nat→AV}{h:Hp}{Q Q':KA}(hh:SemC t c σ h Q)(hQ:∀ ex σ h,Q ex σ h→Q' ex σ h):SemC t c σ h Q' :=
 ⟨hh.1,fun Γ pure a e h1 h2 h3 h4 h5 h6 h7 h8 h9=>Code.wp_mono (fun _ _ _ ⟨σ',h',e',k1,k2⟩=>⟨σ',h',e',hQ _ _ _ k1,k2⟩) (hh.2 Γ pure a e h1 h2 h3 h4 h5 h6 h7 h8 h9)⟩
theorem Jbu(hh:Q .normal σ h):aC t .skip σ h Q:=hh
theorem Jyo(hh:Q .ret σ h):aC t .ret σ h Q:=hh
theorem Js8{id:Nat}(hh:Q (.exit id) σ h):aC t (.exit id) σ h Q:=hh
theorem Jge{id:Nat}{b:Code}(hh:aC t b σ h (Jex id Q)):aC t (.block id b) σ h Q:=.inl hh
theorem JlO{c:Operand}{x y:Code}(hc:evA σ c=.c (.d (.v (.bool true))))(hx:aC t x σ h Q):aC t (.cond c x y) σ h Q:=by
 simp only[aC,hc]; exact⟨fun _=>hx,fun h=>by cases h⟩
theorem JlS{c:Operand}{x y:Code}(hc:evA σ c=.c (.d (.v (.bool false))))(hx:aC t y σ h Q):aC t (.cond c x y) σ h Q:=by
 simp[aC,hc]; exact hx
theorem JhK{id:Nat}{ops:Array Oper}{draw:Bool}(hl:(draw && t.lk.contains id)=false)(hg:(ops.toList.all (Zi ops))=true)(hh:∀ K:(Nat→AV)→Hp→Prop,(∀ σ h,Q .normal σ h→K σ h)→aRO t K (ops.toList.map (roOf ops)) σ h):aC t (.region id ops draw) σ h Q :=
 ⟨σ,h,Wk.refl _ _ _,.inl (JkT hl (JhU _ _ _ hg (Jtc (hh _ fun _ _ x=>x))))⟩
theorem JnW{id:Nat}{ops:Array Oper}{draw:Bool}(hl:(draw && t.lk.contains id)=false)(hg:(ops.toList.all (Zi ops))=true)(hh:aRG t (Q .normal) (fun v h'=>Q (.panic [{ v:=v,recovered:=false }]) (Xc ops σ) h') (ops.toList.map (roOf ops)) σ h):aC t (.region id ops draw) σ h Q :=
 ⟨σ,h,Wk.refl _ _ _,.inl (JkT hl (JhU _ _ _ hg hh))⟩
theorem Jq{b:Code}(hh:aC t b σ h Q):Then t b Q .normal σ h:=⟨σ,h,Wk.refl _ _ _,⟨fun _=>hh⟩⟩
theorem Jvi{b:Code}(hh:Q .ret σ h):Then t b Q .ret σ h:=hh
theorem Jnz{b:Code}{i:Nat}(hh:Q (.exit i) σ h):Then t b Q (.exit i) σ h:=hh
theorem JoN{id:Nat}(hh:Q .normal σ h):Jex id Q .normal σ h:=hh
theorem Js5{id:Nat}(hh:Q .ret σ h):Jex id Q .ret σ h:=hh
theorem Jlw{id:Nat}(hh:Q .normal σ h):Jex id Q (.exit id) σ h:=by simp only[Jex,if_true]; exact hh
theorem Jqy{id j:Nat}(hne:(j == id)=false)(hh:Q (.exit j) σ h):Jex id Q (.exit j) σ h:=by
 have:j≠id:=by simpa using hne
 simp only[Jex,this,if_false]; exact hh
theorem JuC{rt:Nat}{n:Nat}{I:Nat→(Nat→AV)→Hp→Prop}(hh:Q .ret σ h):Jll rt n I Q .ret σ h:=hh
theorem Jle{rt:Nat}{n i:Nat}{I:Nat→(Nat→AV)→Hp→Prop}(hh:Q (.exit i) σ h):Jll rt n I Q (.exit i) σ h:=hh
theorem JvT{rt:Nat}{R:(Nat→AV)→Hp→Prop}(hh:Q .ret σ h):Cut rt R Q .ret σ h:=hh
theorem Ju4{rt:Nat}{R:(Nat→AV)→Hp→Prop}{i:Nat}(hh:Q (.exit i) σ h):Cut rt R Q (.exit i) σ h:=hh
theorem Jfe{t:Tab}:∀ (c:Code) (σ:Nat→AV) (h:Hp) (Q Q':KA),(∀ ex σ h,Q ex σ h→Q' ex σ h)→aC t c σ h Q→aC t c σ h Q'
 | .skip,σ,h,Q,Q',hQ,hh=>hQ _ _ _ hh
 | .region id ops draw,σ,h,Q,Q',hQ,⟨σ1,h1,hwk,hh⟩=>⟨σ1,h1,hwk,hh.imp (Jtg (fun σ h hk=>hQ _ _ _ hk) (fun v h hk=>hQ _ _ _ hk)) fun⟨σ2,h2,x,y⟩=>⟨σ2,h2,x,hQ _ _ _ y⟩⟩
 | .seq a b,σ,h,Q,Q',hQ,hh=>by
  rcases hh with hh | hh
  case inr=>exact .inr (hh.mono hQ)
  refine .inl ?_
  refine Jfe a σ h _ _ (fun ex σ h hk=>?_) hh
  cases ex with
  | normal =>
   obtain⟨σ2,h2,hwk,hk⟩:=hk
   exact⟨σ2,h2,hwk,⟨fun hg=>Jfe b σ2 h2 Q Q' hQ (hk.get hg)⟩⟩
  | exit id=>exact hQ _ _ _ hk
  | goto l=>exact hQ _ _ _ hk
  | ret=>exact hQ _ _ _ hk
  | panic ch=>exact hQ _ _ _ hk
  | outgrown=>exact hQ _ _ _ hk
 | .cond c x y,σ,h,Q,Q',hQ,hh=>by
  simp only[aC]at hh ⊢
  split at hh
  ·exact⟨fun p=>Jfe x σ h Q Q' hQ (hh.1 p),fun p=>Jfe y σ h Q Q' hQ (hh.2 p)⟩
  ·exact hh
 | .block id b,σ,h,Q,Q',hQ,hh=>by
  rcases hh with hh | hh
  case inr=>exact .inr (hh.mono hQ)
  refine .inl ?_
  refine Jfe b σ h _ _ (fun ex σ h hk=>?_) hh
  cases ex with
  | normal=>exact hQ _ _ _ hk
  | exit j =>
   simp only at hk ⊢
   split
   ·rename_i hj; rw[if_pos hj]at hk; exact hQ _ _ _ hk
   ·rename_i hj; rw[if_neg hj]at hk; exact hQ _ _ _ hk
  | goto l=>exact hQ _ _ _ hk
  | ret=>exact hQ _ _ _ hk
  | panic ch=>exact hQ _ _ _ hk
  | outgrown=>exact hQ _ _ _ hk
 | .loop b,σ,h,Q,Q',hQ,hh=>by
  obtain⟨I,h0,hr⟩:=hh
  refine⟨I,h0,fun n σ' h' hI hg=>Jfe b σ' h' _ _ (fun ex σ h hk=>?_) (hr n σ' h' hI hg)⟩
  cases ex with
  | normal=>exact hk
  | exit id=>exact hQ _ _ _ hk
  | goto l=>exact hQ _ _ _ hk
  | ret=>exact hQ _ _ _ hk
  | panic ch=>exact hQ _ _ _ hk
  | outgrown=>exact hQ _ _ _ hk
 | .exit id,σ,h,Q,Q',hQ,hh=>hQ _ _ _ hh
 | .ret,σ,h,Q,Q',hQ,hh=>hQ _ _ _ hh
 | .rangeFunc _ _ _ _,_,_,_,_,_,hh=>hh.elim
 | .scope _,_,_,_,_,_,hh=>hh.elim
 | .label _,_,_,_,_,_,hh=>hh.elim
 | .goto _,_,_,_,_,_,hh=>hh.elim
 | .refuse _,_,_,_,_,_,hh=>hh.elim
theorem JxF{a b:Code}(R:(Nat→AV)→Hp→Prop)(ha:aC t a σ h (Cut t.rt R Q))(hb:∀ σ h,R σ h→aC t b σ h Q):aC t (.seq a b) σ h Q:=by
 refine .inl ?_
 refine Jfe a σ h _ _ (fun ex σ h hk=>?_) ha
 cases ex with
 | normal =>
  obtain⟨σ2,h2,hwk,hR⟩:=hk
  exact⟨σ2,h2,hwk,⟨fun _=>hb σ2 h2 hR⟩⟩
 | exit id=>exact hk
 | goto l=>exact hk
 | ret=>exact hk
 | panic ch=>exact hk
 | outgrown=>exact hk
def At{S R:Type}(J:S→Option R)(L:S→List (Nat×AV))(B:S→List (List C))(ts:List TypeId)(out:R)(σ:Nat→AV)(h:Hp):Prop :=
 ∃ s,σ=sigL (L s)∧h=hpL (B s) ts∧J s=some out
theorem JB{S R:Type}{a b:Code}(J:S→Option R)(L:S→List (Nat×AV))(B:S→List (List C))(ts:List TypeId)(out:R)
  (ha:aC t a σ h (Cut t.rt (At J L B ts out) Q)) (hb:∀ s,J s=some out→aC t b (sigL (L s)) (hpL (B s) ts) Q):aC t (.seq a b) σ h Q :=
 JxF _ ha (by rintro σ h ⟨s,rfl,rfl,hJ⟩; exact hb s hJ)
theorem Jf{rt:Nat}{S R:Type}{J:S→Option R}{L:S→List (Nat×AV)}{B:S→List (List C)}{ts:List TypeId}{out:R}{s:S}(hJ:J s=some out)
  (hwk:Wk rt σ h (sigL (L s)) (hpL (B s) ts)):Cut rt (At J L B ts out) Q .normal σ h:=⟨_,_,hwk,s,rfl,rfl,hJ⟩
section
variable {S R:Type}
inductive Itn (b:S→Option (S ⊕ R)):Nat→S→R→Prop
 | done {s:S} {r:R}:b s=some (.inr r)→Itn b 0 s r
 | step {n:Nat} {s s':S} {r:R}:b s=some (.inl s')→Itn b n s' r→Itn b (n+1) s r
theorem Itn.det{b:S→Option (S ⊕ R)}{n m:Nat}{s:S}{r r':R}(h:Itn b n s r)(k:Itn b m s r'):r=r':=by
 induction h generalizing m with
 | done h =>
  cases k with
  | done k=>rw[h]at k; simpa using k
  | step k _=>rw[h]at k; simp at k
 | step h _ ih =>
  cases k with
  | done k=>rw[h]at k; simp at k
  | step k k2=>rw[h]at k; simp at k; subst k; exact ih k2
open Classical in
noncomputable def JjK(b:S→Option (S ⊕ R))(s:S):Option R:=if h:∃ r n,Itn b n s r then some (Classical.choose h) else none
theorem JkJ{b:S→Option (S ⊕ R)}{s:S}{r:R}:JjK b s=some r↔∃ n,Itn b n s r:=by
 unfold JjK
 constructor
 ·intro h
  split at h
  ·rename_i hx
   simp at h
   rw[← h]
   exact Classical.choose_spec hx
  ·cases h
 ·rintro ⟨n,h⟩
  have hx:∃ r n,Itn b n s r:=⟨r,n,h⟩
  rw[dif_pos hx]
  obtain⟨m,hm⟩:=Classical.choose_spec hx
  rw[hm.det h]
theorem JsF{b:S→Option (S ⊕ R)}{s:S}(h:∀ r n,¬ Itn b n s r):JjK b s=none:=by
 unfold JjK
 rw[dif_neg]
 rintro ⟨r,n,k⟩
 exact h r n k
def bigF:Nat:=18446744073709551616
noncomputable def Jsx{S R:Type}(b:S→Option (S ⊕ R))(n:Nat):S→Option R :=
 Nat.rec (fun _=>none) (fun _ ih s=>match b s with | none=>none | some (.inl s')=>ih s' | some (.inr r)=>some r) n
theorem Jlr{b:S→Option (S ⊕ R)}{r:R}:∀ {n:Nat} {s:S},Jsx b n s=some r→∃ k,Itn b k s r
 | 0,s,h=>by cases h
 | n+1,s,h=>by
  have h:(match b s with | none=>none | some (.inl s')=>Jsx b n s' | some (.inr r)=>some r)=some r:=h
  split at h
  ·cases h
  ·rename_i s' hs
   obtain⟨k,hk⟩:=Jlr h
   exact⟨k+1,.step hs hk⟩
  ·rename_i r' hs
   cases h
   exact⟨0,.done hs⟩
noncomputable def Jt(b:S→Option (S ⊕ R))(s:S):Option R:=match Jsx b bigF s with | some r=>some r | none=>JjK b s
theorem Jrv(b:S→Option (S ⊕ R))(s:S):Jt b s=JjK b s:=by
 unfold Jt
 split
 ·rename_i r h
  exact(JkJ.2 (Jlr h)).symm
 ·rfl
theorem JeT{b:S→Option (S ⊕ R)}{s:S}{r:R}:Jt b s=some r↔∃ n,Itn b n s r:=by rw[Jrv]; exact JkJ
theorem Jlv{b:S→Option (S ⊕ R)}{s:S}(h:∀ r n,¬ Itn b n s r):Jt b s=none:=by rw[Jrv]; exact JsF h
theorem Jcg(b:S→Option (S ⊕ R))(s:S):Jt b s=match b s with | none=>none | some (.inl s')=>Jt b s' | some (.inr r)=>some r:=by
 split
 ·rename_i h
  refine Jlv fun r n k=>?_
  cases k with
  | done k=>rw[h]at k; cases k
  | step k _=>rw[h]at k; cases k
 ·rename_i s' h
  cases hl:Jt b s' with
  | some r =>
   obtain⟨n,hn⟩:=JeT.1 hl
   exact JeT.2 ⟨n+1,.step h hn⟩
  | none =>
   refine Jlv fun r n k=>?_
   cases k with
   | done k=>rw[h]at k; simp at k
   | step k k2 =>
    rw[h]at k; simp at k; subst k
    rw[JeT.2 ⟨_,k2⟩]at hl
    cases hl
 ·rename_i r h
  exact JeT.2 ⟨0,.done h⟩
theorem Jhx{b:S→Option (S ⊕ R)}(I:S→Prop)(μ:S→Nat)(post:R→Prop)
  (h:∀ s,I s→∃ o,b s=some o∧(match o with | .inl s'=>I s'∧μ s'<μ s | .inr r=>post r)):∀ s,I s→∃ r,Jt b s=some r∧post r:=by
 intro s hs
 generalize hn:μ s=n
 induction n using Nat.strongRecOn generalizing s with
 | ind n ih =>
  obtain⟨o,ho,hp⟩:=h s hs
  cases o with
  | inl s' =>
   obtain⟨r,h1,h2⟩:=ih (μ s') (by omega) s' hp.1 rfl
   exact⟨r,by rw[Jcg,ho]; exact h1,h2⟩
  | inr r=>exact⟨r,by rw[Jcg,ho],hp⟩
def Fin'(b:S→Option (S ⊕ R))(n:Nat)(o:S ⊕ R)(out:R):Prop:=match o with | .inl s'=>∃ m,m<n∧Itn b m s' out | .inr r=>r=out
theorem Itn.inv{b:S→Option (S ⊕ R)}{n:Nat}{s:S}{out:R}(h:Itn b n s out):∃ o,b s=some o∧Fin' b n o out:=by
 cases h with
 | done h=>exact⟨_,h,rfl⟩
 | step h k=>exact⟨_,h,_,Nat.lt_succ_self _,k⟩
def LI(b:S→Option (S ⊕ R))(L:S→List (Nat×AV))(B:S→List (List C))(ts:List TypeId)(out:R)(n:Nat)(σ:Nat→AV)(h:Hp):Prop :=
 ∃ s,σ=sigL (L s)∧h=hpL (B s) ts∧Itn b n s out
theorem Ke{c:Code}(b:S→Option (S ⊕ R))(L:S→List (Nat×AV))(B:S→List (List C))(ts:List TypeId){s0:S}{out:R}(H:Jt b s0=some out)
  (hwk:Wk t.rt σ h (sigL (L s0)) (hpL (B s0) ts))
  (hr:∀ n s o,b s=some o→Fin' b n o out→aC t c (sigL (L s)) (hpL (B s) ts) (Jll t.rt n (LI b L B ts out) Q)):aC t (.loop c) σ h Q:=by
 obtain⟨n,hn⟩:=JeT.1 H
 refine⟨LI b L B ts out,⟨n,_,_,hwk,s0,rfl,rfl,hn⟩,?_⟩
 rintro n _ _ ⟨s,rfl,rfl,hI⟩ _
 obtain⟨o,h1,h2⟩:=hI.inv
 exact hr n s o h1 h2
def UnR(t:Tab)(c:Code)(Q:KA):Nat→KA
 | 0=>fun ex σ h=>match ex with | .normal=>False | ex=>Q ex σ h
 | k+1=>fun ex σ h=>match ex with | .normal=>aC t c σ h (UnR t c Q k) | ex=>Q ex σ h
theorem Jw3{c:Code}{k:Nat}(hh:aC t c σ h (UnR t c Q k)):UnR t c Q (k+1) .normal σ h:=hh
theorem JxX{c:Code}{k:Nat}(hh:Q .ret σ h):UnR t c Q k .ret σ h:=by cases k <;> exact hh
theorem Jwg{c:Code}{k i:Nat}(hh:Q (.exit i) σ h):UnR t c Q k (.exit i) σ h:=by cases k <;> exact hh
theorem JuF{c:Code}{k:Nat}{ch:List PanicEntry}(hh:Q (.panic ch) σ h):UnR t c Q k (.panic ch) σ h:=by cases k <;> exact hh
theorem JD{rt:Nat}{b:S→Option (S ⊕ R)}{L:S→List (Nat×AV)}{B:S→List (List C)}{ts:List TypeId}{out:R}{n:Nat}{s':S}(hF:Fin' b n (.inl s') out)
  (hwk:Wk rt σ h (sigL (L s')) (hpL (B s') ts)):Jll rt n (LI b L B ts out) Q .normal σ h:=by
 obtain⟨m,hm,hI⟩:=hF
 exact⟨m,_,_,hm,hwk,s',rfl,rfl,hI⟩
def inrO(x:Option R):Option (S ⊕ R):=x.map .inr
theorem Jtw{x:Option R}{o:S ⊕ R}(h:inrO x=some o):∃ r,x=some r∧o=.inr r:=by
 unfold inrO at h
 rw[Option.map_eq_some_iff]at h
 obtain⟨r,h1,h2⟩:=h
 exact⟨r,h1,h2.symm⟩
end
theorem Jc{α:Type}{p:Bool}{A B o:Option α}(H:(if p=true then A else B)=o):(p=true∧A=o)∨(p=false∧B=o):=by
 cases p
 ·exact .inr ⟨rfl,by simpa using H⟩
 ·exact .inl ⟨rfl,by simpa using H⟩
theorem Jj{α:Type}{p:Prop} [Decidable p] {A:Option α} {o:α} (H:(if p then A else none)=some o):p∧A=some o:=by
 by_cases hp:p
 ·exact⟨hp,by simpa [hp] using H⟩
 ·simp[hp]at H
theorem Jg{α β:Type}{x:Option α}{f:α→Option β}{o:β}(H:x.bind f=some o):∃ a,x=some a∧f a=some o:=by
 cases x with
 | none=>simp at H
 | some a=>exact⟨a,rfl,H⟩
theorem Jr{α β:Type}(f:α→β)(l:List α)(n:Nat)(d:β)(e:α)(h:n<l.length):(l.map f).getD n d=f (l.getD n e):=by
 simp[List.getD_eq_getElem?_getD,List.getElem?_eq_getElem h]
def dI(n:Int):D:=.v (.int .i64 n)
def dB(b:Bool):D:=.v (.bool b)
def dE(b:Bool):D:=.ne b
def dS(l:List UInt8):D:=.v (str l)
def dU(c:UInt8):D:=.v (.int .u8 (c.toNat:Int))
def dL{α:Type}(sz:Nat)(e:α→D)(l:List α):D:=.sl sz (l.map e)
theorem K9(a b:Int)(h:dI a=dI b):a=b:=by simpa [dI] using h
theorem Jhd(a b:Bool)(h:dB a=dB b):a=b:=by simpa [dB] using h
theorem Jd4(a b:List UInt8)(h:dS a=dS b):a=b:=by simpa [dS] using h
theorem Juu(a b:UInt8)(h:dU a=dU b):a=b:=by
 simp only[dU,D.v.injEq,Value.int.injEq,true_and]at h
 exact UInt8.toNat_inj.1 (by omega)
theorem JpR{α β:Type}{f:α→β}(hf:∀ a b,f a=f b→a=b):∀ (l m:List α),l.map f=m.map f→l=m
 | [],[],_=>rfl
 | [],_::_,h=>by simp at h
 | _::_,[],h=>by simp at h
 | a::l,b::m,h=>by
  simp only[List.map_cons,List.cons.injEq]at h
  rw[hf a b h.1,JpR hf l m h.2]
theorem Jfz{α:Type}{sz:Nat}{e:α→D}(he:∀ a b,e a=e b→a=b)(l m:List α)(h:dL sz e l=dL sz e m):l=m:=by
 simp only[dL,D.sl.injEq,true_and]at h
 exact JpR he l m h
theorem JqX(l:List UInt8):(l.map dU).map unU8=l:=by
 have:=JvP l
 exact this
theorem JsZ(l:List UInt8):∃ bs,l.map dU=u8s bs:=⟨l,rfl⟩
theorem XL{α:Type}{e:α→D}(he:∀ a,(e a).cells.all D.one=true)(l:List α):∀ y∈l.map e,y.cells.all D.one=true:=by
 intro y hy
 obtain⟨a,_,rfl⟩:=List.mem_map.1 hy
 exact he a
theorem Juk(a:Int):(dI a).cells.all D.one=true:=rfl
open Classical in
noncomputable def PF.of{A R:Type}(enc:A→List D)(f:A→Option R)(e:R→D):PF :=
 ⟨fun l=>∃ a r,les1 l (enc a)∧f a=some r,fun l=>if h:∃ d,∃ a r,les1 l (enc a)∧f a=some r∧d=e r then Classical.choose h else .v undef⟩
def Inj{A:Type}(enc:A→List D):Prop:=∀ a b,(enc a).map VC=(enc b).map VC→a=b
theorem PF.of_prel{A R:Type}{enc:A→List D}{f:A→Option R}{e:R→D}{l:List D}{a:A}{r:R}(hl:les1 l (enc a))(H:f a=some r):(PF.of enc f e).pre l=True :=
 eq_true ⟨a,r,hl,H⟩
theorem PF.of_vall{A R:Type}{enc:A→List D}{f:A→Option R}{e:R→D}(inj:Inj enc){l:List D}{a:A}{r:R}(hl:les1 l (enc a))(H:f a=some r):(PF.of enc f e).val l=e r:=by
 have hx:∃ d,∃ a' r',les1 l (enc a')∧f a'=some r'∧d=e r':=⟨_,a,r,hl,H,rfl⟩
 simp only[PF.of]
 rw[dif_pos hx]
 obtain⟨a',r',h1,h2,h3⟩:=Classical.choose_spec hx
 rw[h3]
 have:=inj a a' ((Jh2 hl).symm.trans (Jh2 h1))
 subst this
 rw[H]at h2
 cases h2
 rfl
theorem PF.of_pre{A R:Type}{enc:A→List D}{f:A→Option R}{e:R→D}{a:A}{r:R}(H:f a=some r):(PF.of enc f e).pre (enc a)=True :=
 PF.of_prel (Jg1 _) H
theorem PF.of_val{A R:Type}{enc:A→List D}{f:A→Option R}{e:R→D}(inj:Inj enc){a:A}{r:R}(H:f a=some r):(PF.of enc f e).val (enc a)=e r :=
 PF.of_vall inj (Jg1 _) H
theorem JwF{A R:Type}{enc:A→List D}{f:A→Option R}{e:R→D}(inj:Inj enc){t:Tab}(hrt:t.rt=0){pure:Nat→Nat}(ht:TabOk t)(hm:t.P.follows .mixedOrders=true)(hpure:∀ n,pure n=0→(t.Φ n).isSome)(hnp:∀ n,pure n=1→∀ g,t.G n g→∃ val bs ts,g.out=.ret val bs ts)
  {k:Nat} {fn:Func} {c:Code} (hf:t.P.funcs[k]? = some fn) (hb:fn.body=some c) (hcode:(KY pure t.lk fn.ntmps c && fn.results.toList.all (Jag fn.ntmps) && fn.ntmps.ble DS)=true)
  (hl:∀ a,(enc a).length≤fn.ntmps)
  (h:∀ a r,f a=some r→aC t c (sig0 ((enc a).map fun d=>.c (.d d))) hp0 (JkW t.P t.rt fn (e r))):Kl t.P k (PF.of enc f e):=by
 have hx:∀ a r,f a=some r→Kl t.P k ⟨fun l=>l=enc a,fun _=>e r⟩:=fun a r H=>by
  refine JsM ht hm hpure hnp hf hb hcode _ ?_
  rintro args rfl
  exact⟨hl a,hrt,_,_,Wk.refl _ _ _,fun _=>h a r H⟩
 intro w S args vs hG hargs hS hp
 obtain⟨a,r,hle,H⟩:=hp
 have:=hx a r H w S (enc a) vs hG (JlT hle hargs) hS rfl
 rwa [PF.of_vall inj hle H]
noncomputable def tab(P:Program)(l:List (Nat×PF))(gl:List (Nat×Bool×(GI→Prop)))(dl:List (Nat×(DI→Prop)))(rt:Nat)(lk:List Nat):Tab :=
 ⟨P,fun n=>l.lookup n,fun _=>none,rt,fun n g=>∃ p∈gl,p.1=n∧p.2.2 g,fun n d=>∃ p∈dl,p.1=n∧p.2 d,lk⟩
theorem JlB{α:Type}:∀ {l:List (Nat×α)} {n:Nat} {x:α},l.lookup n=some x→(n,x)∈l
 | [],_,_,h=>by cases h
 | (k,y)::l,n,x,h=>by
  rw[List.lookup_cons]at h
  split at h
  ·rename_i hk; simp at hk h; subst hk; subst h; simp
  ·exact List.mem_cons_of_mem _ (JlB h)
def Jfr(P:Program):List (Nat×PF)→Prop
 | []=>True
 | (k,pf)::l=>(Jh P k∧Kl P k pf)∧Jfr P l
def JcZ(P:Program):List (Nat×Bool×(GI→Prop))→Prop
 | []=>True
 | (k,np,S)::l=>(Jh P k∧(∀ g,S g→Jx P k g)∧(np=true→∀ g,S g→∃ val bs ts,g.out=.ret val bs ts))∧JcZ P l
def JgC(P:Program):List (Nat×(DI→Prop))→Prop
 | []=>True
 | (k,S)::l=>(Jh P k∧∀ d,S d→DOk P k d)∧JgC P l
theorem Jfr.mem{P:Program}:∀ {l:List (Nat×PF)},Jfr P l→∀ p∈l,Jh P p.1∧Kl P p.1 p.2
 | (_,_)::_,⟨h1,h2⟩,p,hp=>by
  rcases List.mem_cons.1 hp with rfl | hp
  ·exact h1
  ·exact Jfr.mem h2 p hp
theorem JcZ.mem{P:Program}:∀ {l:List (Nat×Bool×(GI→Prop))},JcZ P l→∀ p∈l,Jh P p.1∧(∀ g,p.2.2 g→Jx P p.1 g)∧(p.2.1=true→∀ g,p.2.2 g→∃ val bs ts,g.out=.ret val bs ts)
 | (_,_,_)::_,⟨h1,h2⟩,p,hp=>by
  rcases List.mem_cons.1 hp with rfl | hp
  ·exact h1
  ·exact JcZ.mem h2 p hp
theorem JgC.mem{P:Program}:∀ {l:List (Nat×(DI→Prop))},JgC P l→∀ p∈l,Jh P p.1∧∀ d,p.2 d→DOk P p.1 d
 | (_,_)::_,⟨h1,h2⟩,p,hp=>by
  rcases List.mem_cons.1 hp with rfl | hp
  ·exact h1
  ·exact JgC.mem h2 p hp
theorem JkM{P:Program}{l:List (Nat×PF)}{gl:List (Nat×Bool×(GI→Prop))}{dl:List (Nat×(DI→Prop))}{rt:Nat}{lk:List Nat}(h1:Jfr P l)(h2:JcZ P gl)(h3:JgC P dl):TabOk (tab P l gl dl rt lk):=by
 refine⟨fun _ _ h=>h1.mem _ (JlB h),fun _ _ h=>(by cases h),?_,?_⟩
 ·rintro f g ⟨p,hp,rfl,hg⟩
  exact⟨(h2.mem p hp).1,(h2.mem p hp).2.1 g hg⟩
 ·rintro f d ⟨p,hp,rfl,hd⟩
  exact⟨(h3.mem p hp).1,(h3.mem p hp).2 d hd⟩
def JcV(ks:List Nat)(gs:List (Nat×Bool))(n:Nat):Nat:=if ks.contains n then 0 else if gs.any (fun p=>p.1 == n) && gs.all (fun p=>p.1 != n || p.2) then 1 else 2
theorem Jm5:∀ {l:List (Nat×PF)} {n:Nat},(l.map Prod.fst).contains n=true→(l.lookup n).isSome
 | [],n,h=>by simp at h
 | (k,pf)::l,n,h=>by
  rw[List.lookup_cons]
  split
  ·rfl
  ·rename_i hk
   simp only[List.map_cons,List.contains_cons,Bool.or_eq_true]at h
   rcases h with h | h
   ·simp at hk h; exact absurd h hk
   ·exact Jm5 h
theorem Jgl{P:Program}{l:List (Nat×PF)}{gl:List (Nat×Bool×(GI→Prop))}{dl:List (Nat×(DI→Prop))}{rt:Nat}{lk:List Nat}(n:Nat)(hn:JcV (l.map Prod.fst) (gl.map fun p=>(p.1,p.2.1)) n=0):((tab P l gl dl rt lk).Φ n).isSome:=by
 unfold JcV at hn
 split at hn
 ·rename_i h; exact Jm5 h
 ·split at hn <;> cases hn
theorem Jjn{P:Program}{l:List (Nat×PF)}{gl:List (Nat×Bool×(GI→Prop))}{dl:List (Nat×(DI→Prop))}{rt:Nat}{lk:List Nat}(h2:JcZ P gl)(n:Nat)(hn:JcV (l.map Prod.fst) (gl.map fun p=>(p.1,p.2.1)) n=1)(g:GI)(hg:(tab P l gl dl rt lk).G n g):
  ∃ val bs ts,g.out=.ret val bs ts:=by
 unfold JcV at hn
 split at hn
 ·cases hn
 ·split at hn
  ·rename_i h
   simp only[Bool.and_eq_true,List.all_eq_true,List.mem_map]at h
   obtain⟨p,hp,rfl,hS⟩:=hg
   refine(h2.mem p hp).2.2 ?_ g hS
   have:=h.2 (p.1,p.2.1) ⟨p,hp,rfl⟩
   simpa using this
  ·cases hn
end Go.Proofs.Ytaofbminodhcnaa
namespace Go.Proofs.Ytaofbminodhcnaa
open Go.RowKit
def JeO(P:Program)(σ:Nat→AV)(h:Hp):ResultVar→Prop×AV
 | .tmp t=>(True,σ t)
 | .cell a ty=>match σ a with
  | .c (.pt n 0)=>match h.H n with
   | some row=>(rowP row=true∧(KL P h ty row 0).pre,(KL P h ty row 0).val)
   | none=>(False,VV)
  | _=>(False,VV)
def VT(P:Program)(σ:Nat→AV)(h:Hp):List ResultVar→Prop×List AV
 | []=>(True,[])
 | r::rs=>((JeO P σ h r).1∧(VT P σ h rs).1,(JeO P σ h r).2::(VT P σ h rs).2)
def Jbb:List AV→Option (List (Bool×List C))
 | []=>some []
 | .c x::l=>(Jbb l).map fun m=>(false,[x])::m
 | .ag y::l=>(Jbb l).map fun m=>(true,y)::m
 | _::_=>none
def Jee:List AV→Option AV
 | [a]=>some a
 | l=>(Jbb l).map .tu
theorem Jg5{e:Env}:∀ {l:List AV} {m:List (Bool×List C)} {vs:List Value},Jbb l=some m→RAs e l vs→RTs e m vs
 | [],_,[],h,_=>by cases h; trivial
 | .c x::l,_,v::vs,h,⟨k1,k2⟩=>by
  obtain⟨m,h1,rfl⟩:=Option.map_eq_some_iff.1 h
  exact⟨⟨x,rfl,k1⟩,Jg5 h1 k2⟩
 | .ag y::l,_,v::vs,h,⟨k1,k2⟩=>by
  obtain⟨m,h1,rfl⟩:=Option.map_eq_some_iff.1 h
  exact⟨k1,Jg5 h1 k2⟩
 | .tu _::_,_,_::_,h,_=>by cases h
 | .df _::_,_,_::_,h,_=>by cases h
 | [],_,_::_,_,k=>k.elim
 | _::_,_,[],_,k=>k.elim
theorem Jte{Γ:Ctx}{σ:Nat→AV}{h:Hp}{a:Act}{e:Env}(hs:∀ i,i<Γ.nt→RA e (σ i) (a.tmps.getD i undef))(hw:WInv Γ h e){r:ResultVar}(hin:Jag Γ.nt r=true)(hp:(JeO Γ.P σ h r).1):
  ∃ v,(match r with | .tmp t=>pure (a.tmps.getD t undef) | .cell x ty=>do loadVar ty (← asAddr (a.tmps.getD x undef)):Sem Value).run Γ.P e.w=.ok v e.w∧RA e (JeO Γ.P σ h r).2 v:=by
 cases r with
 | tmp t =>
  simp only[Jag,decide_eq_true_eq]at hin
  exact⟨_,by simp,hs t hin⟩
 | cell x ty =>
  simp only[Jag,decide_eq_true_eq]at hin
  have hx:=hs x hin
  simp only[JeO]at hp ⊢
  split at hp
  ·rename_i n hσ
   split at hp
   ·rename_i row hrow
    rw[hσ]at hx
    obtain⟨b,h2,h3⟩:=hx
    obtain⟨b',cs,ty',h4,h5,h6,h7,_⟩:=hw.boxAt h2 row hrow (ZO hp.1)
    rw[h2]at h4
    simp at h4
    subst h4
    obtain⟨v,h8,h9⟩:=Jfq (b:=b) (o:=0) hp.2 (h6.plain hp.1) (fun i x hx=>by simp[World.cell?,h5]; simpa using hx)
    refine⟨v,?_,h9⟩
    simp only[Nat.zero_add]at h8
    simp only[h3,asAddr,Sem.run_bind,Sem.run_pure,Result.andThen_ok]
    simpa [Instr.loadAt,Instr.sureAddr] using h8
   ·exact hp.elim
  ·exact hp.elim
theorem JmA{Γ:Ctx}{σ:Nat→AV}{h:Hp}{a:Act}{e:Env}(hs:∀ i,i<Γ.nt→RA e (σ i) (a.tmps.getD i undef))(hw:WInv Γ h e):∀ (rs:List ResultVar),(rs.all (Jag Γ.nt))=true→(VT Γ.P σ h rs).1 →
  ∃ vs,(rs.mapM fun r=>(match r with | .tmp t=>pure (a.tmps.getD t undef) | .cell x ty=>do loadVar ty (← asAddr (a.tmps.getD x undef)):Sem Value)).run Γ.P e.w=.ok vs e.w∧RAs e (VT Γ.P σ h rs).2 vs
 | [],_,_=>⟨[],by simp,trivial⟩
 | r::rs,hin,hp=>by
  simp only[List.all_cons,Bool.and_eq_true]at hin
  obtain⟨v,h1,h2⟩:=Jte hs hw hin.1 hp.1
  obtain⟨vs,h3,h4⟩:=JmA hs hw rs hin.2 hp.2
  refine⟨v::vs,?_,h2,h4⟩
  rw[List.mapM_cons,Sem.run_bind,h1,Result.andThen_ok,Sem.run_bind,h3]
  rfl
theorem Jld{Γ:Ctx}{σ:Nat→AV}{h:Hp}{a:Act}{e:Env}{fn:Func}{av:AV}(hs:∀ i,i<Γ.nt→RA e (σ i) (a.tmps.getD i undef))(hw:WInv Γ h e)(hin:(fn.results.toList.all (Jag Γ.nt))=true)
  (hr:(VT Γ.P σ h fn.results.toList).1) (hj:Jee (VT Γ.P σ h fn.results.toList).2=some av):∃ v,(results fn a.tmps).run Γ.P e.w=.ok v e.w∧RA e av v:=by
 obtain⟨vs,h1,h2⟩:=JmA hs hw fn.results.toList hin hr
 have hrun:(fn.results.mapM fun r=>(match r with | .tmp t=>pure (a.tmps.getD t undef) | .cell x ty=>do loadVar ty (← asAddr (a.tmps.getD x undef)):Sem Value)).run Γ.P e.w=.ok vs.toArray e.w:=by
  rw[Array.mapM_eq_mapM_toList,Sem.run_map,h1]; rfl
 refine⟨if h:vs.toArray.size=1 then vs.toArray[0] else .tuple vs.toArray,?_,?_⟩
 ·unfold results
  rw[Sem.run_bind]
  erw [hrun]
  rfl
 ·generalize (VT Γ.P σ h fn.results.toList).2=as at h2 hj
  match as,vs,h2,hj with
  | [],[],_,hj=>cases hj; exact⟨[],rfl,trivial⟩
  | [x],[v],⟨k1,_⟩,hj=>cases hj; simpa using k1
  | [x],v::u::vs,⟨_,k2⟩,_=>exact k2.elim
  | x::y::as,[v],⟨_,k2⟩,_=>exact k2.elim
  | x::y::as,v::u::vs,k,hj =>
   have hj:(Jbb (x::y::as)).map AV.tu=some av:=hj
   obtain⟨m,h3,rfl⟩:=Option.map_eq_some_iff.1 hj
   rw[dif_neg (by simp)]
   exact⟨_,rfl,Jg5 h3 k⟩
structure FinWk (nb:Nat) (r:Ren) (h:Hp) (bs:List (List C)) (ts:List TypeId):Prop where
 lb:bs.length=r.ps.length
 lt:ts.length=r.qs.length
 op:once r.ps=true
 oq:once r.qs=true
 bwk:BWk r h 1 bs
 twk:TWk r h (r.ps.length+1) ts
 rt:(r.ps.take nb == List.range' 1 nb)=true
 nb:nb≤bs.length
def QL(t:Tab)(rs:List ResultVar)(nb:Nat)(out:GOut):List (Nat×List C)→Option Value→(Nat→AV)→Hp→Prop
 | [],none,σ,h=>match out with
  | .ret val bs ts=>∃ r av,FinWk nb r h bs ts∧(VT t.P σ h rs).1∧Jee (VT t.P σ h rs).2=some av∧AWk r av val
  | _=>False
 | [],some v,_,h=>match out with
  | .pan v' bs ts=>v=v'∧∃ r,FinWk nb r h bs ts
  | _=>False
 | (f,cs)::l,u,σ,h=>∃ d r,t.D f d∧d.u=u∧GHands h r ⟨d.args,d.bs,d.ts,.ret VV [] []⟩ (cs.map AV.c)∧QL t rs nb out l d.u' σ (h.after r d.bs' d.ts')
theorem JsO{r:Ren}{e:Env}{Γ:Ctx}{bs:List (List C)}{ts:List TypeId}(hw:WInv Γ (hpL bs ts) (renE r e)):JhV (renE r e) (bs.length+ts.length):=by
 intro i hi
 rcases hi with rfl | hi
 ·refine⟨?_,?_,fun m hm=>?_⟩
  ·simp[renE]
  ·simp[renE]
  ·simp[renE]at hm
 ·exact(hw.fresh i (by simp[hpL]; omega)).2.2
theorem FinWk.fin{P:Program}{Γ:Ctx}{nb nt0:Nat}{e0 e:Env}{r:Ren}{h:Hp}{bs:List (List C)}{ts:List TypeId}(k:FinWk nb r h bs ts)(hroot:Γ.root.length=nb)(hw:WInv Γ h e)
  (hΓ:∀ e',WInv Γ (hpL bs ts) e'→WInv (ctxG P nb nt0 e0) (hpL bs ts) e'):GFin P nb nt0 e0 bs ts (renE r e):=by
 have h1:=JlV r k.lb k.lt k.op k.oq k.bwk k.twk k.rt hroot hw
 exact⟨hΓ _ h1,JsO h1,k.nb⟩
theorem Jkk{t:Tab}(ht:TabOk t){Γ:Ctx}(hP:t.P=Γ.P){nb nt0:Nat}{out:GOut}{fn:Func}(hroot:Γ.root.length=nb){e0:Env}(hΓ:∀ bs ts e',WInv Γ (hpL bs ts) e'→WInv (ctxG Γ.P nb nt0 e0) (hpL bs ts) e')
  (hin:(fn.results.toList.all (Jag Γ.nt))=true):∀ (l:List (Nat×List C)) (u:Option Value) (σ:Nat→AV) (h:Hp) (a:Act) (e:Env) (dl:List Deferred),QL t fn.results.toList nb out l u σ h→RDl e l dl →
   (∀ i,i<Γ.nt→RA e (σ i) (a.tmps.getD i undef))→WInv Γ h e→Leaves Γ.P fn a.tmps (JoH Γ.P e0 nb nt0 out) dl (Jd0 u) e.w
 | [],none,σ,h,a,e,dl,hq,hd,hs,hw=>by
  cases dl with
  | cons _ _=>exact hd.elim
  | nil =>
   unfold QL at hq
   split at hq
   ·obtain⟨r,av,k1,k2,k3,k4⟩:=hq
    rw[hP]at k2 k3
    obtain⟨v,h1,h2⟩:=Jld (Γ:=Γ) hs hw hin k2 k3
    exact⟨v,h1,v,renE r e,rfl,rfl,k1.fin hroot hw (hΓ _ _),AWk.ra k4 h2⟩
   ·exact hq.elim
 | [],some v,σ,h,a,e,dl,hq,hd,hs,hw=>by
  cases dl with
  | cons _ _=>exact hd.elim
  | nil =>
   unfold QL at hq
   split at hq
   ·obtain⟨rfl,r,k1⟩:=hq
    exact⟨renE r e,rfl,rfl,k1.fin hroot hw (hΓ _ _)⟩
   ·exact hq.elim
 | (f,cs)::l,u,σ,h,a,e,dl,hq,hd,hs,hw=>by
  cases dl with
  | nil=>exact hd.elim
  | cons q dl =>
   obtain⟨⟨cap,vs,k1,k2,k3⟩,hd⟩:=hd
   obtain⟨d,r,hD,hu,hH,hq⟩:=hq
   obtain⟨hcall,hdok⟩:=ht.df _ _ hD
   rw[hP]at hcall hdok
   have hands:Hands Γ h e r d.bs d.ts:=⟨hw,hH.lb,hH.lt,hH.op,hH.oq,hH.bwk,hH.twk,hH.live⟩
   obtain⟨q1,q2⟩:=hands.enter
   have hargs:RAs e (cs.map AV.c) vs:=by
    have:∀ {cs:List C} {vs:List Value},RCs e cs vs→RAs e (cs.map AV.c) vs:=by
     intro cs
     induction cs with
     | nil=>intro vs h; cases vs with | nil=>trivial | cons _ _=>exact h.elim
     | cons c cs ih=>intro vs h; cases vs with
      | nil=>exact h.elim
      | cons v vs=>exact⟨h.1,ih h.2⟩
    exact this k3
   refine⟨by cases u <;> simp[Jd0],.func f,cap,f,⟨vs⟩,k1,?_,?_⟩
   ·rw[k1]
    simp only[invoke,k2]
    exact hcall _ _
   ·have:=hdok (renE r e) vs q1 q2 (AsWk.ras hH.args hargs)
    rw[hu]at this
    refine this.mono ?_
    rintro en u' w' ⟨v,e',rfl,hst,rfl,p1,p2,p3⟩
    show Leaves Γ.P fn a.tmps _ dl (settle u') e'.w
    rw[hst]
    have hle:=hands.le p1
    exact Jkk ht hP hroot hΓ hin l d.u' σ _ a (Vh _ h e e') dl hq (hd.mono hle) (fun i hi=>RA.mono hle (hs i hi)) (hands.leave p1 p2 p3)
def QGen(t:Tab)(fn:Func)(nb:Nat)(out:GOut):KA:=fun ex σ h =>
 match ex with
 | .ret=>QL t fn.results.toList nb out (dfL (σ DS)) none σ h
 | .normal=>QL t fn.results.toList nb out (dfL (σ DS)) none σ h
 | .panic chain=>∃ v,chain=[{ v:=v,recovered:=false }]∧QL t fn.results.toList nb out (dfL (σ DS)) (some v) σ h
 | _=>False
def Jfw(t:Tab)(fn:Func)(nb:Nat)(out:GOut):KA:=fun ex σ h=>∃ σ' h',Wk nb σ h σ' h'∧QGen t fn nb out ex σ' h'
theorem RAs.get{e:Env}:∀ {l:List AV} {vs:List Value},RAs e l vs→∀ i,(h:i<l.length)→∃ v,vs[i]? = some v∧RA e l[i] v
 | [],[],_,i,h=>by simp at h
 | a::l,v::vs,⟨k1,k2⟩,i,h=>by
  cases i with
  | zero=>exact⟨v,rfl,k1⟩
  | succ i=>simpa using RAs.get k2 i (by simpa using h)
theorem Jpc{nt:Nat}{args:List AV}{vs:List Value}{e:Env}(h:RAs e args vs)(hl:args.length≤nt)(hd:nt≤DS):
  Jz nt [] (sig0 args) { tmps:=(⟨vs⟩:Array Value)++Array.replicate (nt-(⟨vs⟩:Array Value).size) undef,defers:=[] } e:=by
 have hlen:=h.length
 refine⟨by simp[hlen]; omega,⟨⟨[],rfl,by rw[JrU (by omega)]; trivial⟩,hd⟩,fun i hi=>?_⟩
 rcases Nat.lt_or_ge i args.length with hlt | hge
 ·obtain⟨v,h1,h2⟩:=h.get i hlt
  have e1:sig0 args i=args[i]:=by simp[sig0,hlt]
  have e2:((⟨vs⟩:Array Value)++Array.replicate (nt-(⟨vs⟩:Array Value).size) undef).getD i undef=v:=by
   have hiv:i<vs.length:=by omega
   simp only[Array.getD_eq_getD_getElem?]
   rw[Array.getElem?_append_left (by simpa using hiv)]
   simp[h1]
  rw[e1,e2]
  exact h2
 ·have e1:sig0 args i=VV:=by simp[sig0,hge]
  have e2:((⟨vs⟩:Array Value)++Array.replicate (nt-(⟨vs⟩:Array Value).size) undef).getD i undef=undef:=by
   simp only[Array.getD_eq_getD_getElem?]
   rw[Array.getElem?_append_right (by simp; omega),Array.getElem?_replicate]
   split <;> rfl
  rw[e1,e2]
  exact RA.undef e
theorem WInv.reCtx{Γ Γ':Ctx}{h:Hp}{e:Env}(hw:WInv Γ h e)(h1:Γ'.P=Γ.P)(h2:Γ'.w0=Γ.w0)(h3:Γ'.B=Γ.B)(h4:Γ'.S0=Γ.S0)(h5:Γ'.M=Γ.M)(h6:Γ'.root=Γ.root):WInv Γ' h e:=by
 obtain⟨P,w0,B,S0,M,nt,ds,root⟩:=Γ
 obtain⟨P',w0',B',S0',M',nt',ds',root'⟩:=Γ'
 simp only at h1 h2 h3 h4 h5 h6
 subst h1; subst h2; subst h3; subst h4; subst h5; subst h6
 exact⟨hw.g0,hw.os,hw.tape,hw.output,hw.grown,hw.hB,hw.old,hw.sdom,hw.s0,hw.s0B,hw.keep,hw.box,hw.inj,hw.tok,hw.tokinj,hw.fresh,hw.nx0,hw.rt,⟨fun n m hn hm=>let k:=hw.ext.mu n m hn hm; ⟨k.lt,k.s,k.own,k.box,k.tok,k.one,k.ob⟩,hw.ext.kc⟩⟩
theorem Jtm{t:Tab}{pure:Nat→Nat}(ht:TabOk t)(hm:t.P.follows .mixedOrders=true)(hpure:∀ n,pure n=0→(t.Φ n).isSome)(hnp:∀ n,pure n=1→∀ g,t.G n g→∃ val bs ts,g.out=.ret val bs ts){f:Nat}{fn:Func}{c:Code}(hf:t.P.funcs[f]? = some fn)(hb:fn.body=some c)
  (hcode:(KY pure t.lk fn.ntmps c && fn.results.toList.all (Jag fn.ntmps) && fn.ntmps.ble DS)=true) (g:GI) (hrt:t.rt=g.bs.length) (hl:g.args.length≤fn.ntmps)
  (h:aC t c (sig0 g.args) (hpL g.bs g.ts) (Jfw t fn g.bs.length g.out)):Jx t.P f g:=by
 simp only[Bool.and_eq_true]at hcode
 intro e vs hw hcan hargs
 refine calls_of_wp_defers hf hb ?_
 let Γ:Ctx:={ ctxG t.P g.bs.length g.ts.length e with nt:=fn.ntmps }
 have hwΓ:WInv Γ (hpL g.bs g.ts) e:=hw.reCtx rfl rfl rfl rfl rfl rfl
 have hroot:Γ.root.length=g.bs.length:=by simp[Γ,ctxG]
 refine Jbj (Γ:=Γ) (t:=t) (pure:=pure) ht rfl (by rw[hroot,hrt]) hm hpure hnp c _ _ hcode.1.1 (fun ex σ h a e1 hk hs1 hw1=>?_) _ _ _ e h (Jpc hargs hl (Nat.le_of_ble_eq_true hcode.2)) hwΓ
 obtain⟨σ,h,hwk,hk⟩:=hk
 obtain⟨e',he',hs',hw'⟩:=hwk Γ a e1 hroot hs1 hw1
 rw[← he']
 have fin:∀ u,QL t fn.results.toList g.bs.length g.out (dfL (σ DS)) u σ h→Leaves t.P fn a.tmps (JoH t.P e g.bs.length g.ts.length g.out) a.defers (Jd0 u) e'.w:=fun u hq=>by
  obtain⟨r,h1,h2⟩:=hs'.2.1.1
  have h1:a.defers=r:=by simpa [Γ,ctxG] using h1
  rw[h1]
  exact Jkk (Γ:=Γ) ht rfl hroot (fun bs ts e' hw=>hw.reCtx rfl rfl rfl rfl rfl rfl) hcode.1.2 _ u σ h a e' r hq h2 hs'.2.2 hw'
 cases ex with
 | normal=>exact fin none hk
 | ret=>exact fin none hk
 | exit id=>exact hk.elim
 | goto l=>exact hk.elim
 | panic ch =>
  obtain⟨v,rfl,hk⟩:=hk
  exact fin (some v) hk
 | outgrown=>exact hk.elim
def QDf(t:Tab)(fn:Func)(d:DI):KA:=fun ex σ h =>
 match ex with
 | .ret=>(∃ r,FinWk d.bs.length r h d.bs' d.ts')∧(VT t.P σ h fn.results.toList).1∧(Jee (VT t.P σ h fn.results.toList).2).isSome=true∧dfL (σ DS)=[]∧d.u'=d.u
 | .normal=>(∃ r,FinWk d.bs.length r h d.bs' d.ts')∧(VT t.P σ h fn.results.toList).1∧(Jee (VT t.P σ h fn.results.toList).2).isSome=true∧dfL (σ DS)=[]∧d.u'=d.u
 | _=>False
def Jla(k ty:Nat)(ps:String):Array Oper:=#[{ dst:=some k,op:=.call { callee:=.builtin .recover,args:=#[],argTypes:=#[] },type:=ty,pos:=ps,after:=#[],guard:=none }]
theorem Jqn{t:Tab}{pure:Nat→Nat}(ht:TabOk t)(hm:t.P.follows .mixedOrders=true)(hpure:∀ n,pure n=0→(t.Φ n).isSome)(hnp:∀ n,pure n=1→∀ g,t.G n g→∃ val bs ts,g.out=.ret val bs ts){f:Nat}{fn:Func}{id k ty:Nat}{ps:String}{c:Code}(hf:t.P.funcs[f]? = some fn)(hb:fn.body=some (.seq (.region id (Jla k ty ps) false) c))
  (hcode:(KY pure t.lk fn.ntmps c && fn.results.toList.all (Jag fn.ntmps) && fn.ntmps.ble DS && k.blt DS)=true) (d:DI) (hu':d.u'=none) (hrt:t.rt=d.bs.length) (hl:d.args.length≤fn.ntmps)
  (h:aC t c (upd (sig0 d.args) k (.c (.d (.v (d.u.getD .nilIface))))) (hpL d.bs d.ts) (QDf t fn { d with u':=d.u })):DOk t.P f d:=by
 simp only[Bool.and_eq_true]at hcode
 intro e vs hw hcan hargs
 let Γ:Ctx:={ ctxG t.P d.bs.length d.ts.length e with nt:=fn.ntmps }
 have hwΓ:WInv Γ (hpL d.bs d.ts) e:=hw.reCtx rfl rfl rfl rfl rfl rfl
 have hroot:Γ.root.length=d.bs.length:=by simp[Γ,ctxG]
 refine callsD_of_wpS hf hb fun c₀ cs hu=>?_
 have key:∀ c1:Frame,(∃ u1,c1={ c₀ with mode:=u1 }∧settle u1=.returning)→c.wpS t.P (bodyPostS t.P fn c₀ cs fun en u' w'=>∃ v e',en=.returned v∧settle u'=Jd0 d.u'∧e'.w=w'∧GFin t.P d.bs.length d.ts.length e d.bs' d.ts' e')
   (({ tmps:=(⟨vs⟩:Array Value)++Array.replicate (fn.ntmps-(⟨vs⟩:Array Value).size) undef,defers:=[] }:Act).put (some k) (d.u.getD .nilIface)) (c1::cs) e.w:=by
  rintro _ ⟨u1,rfl,hs1⟩
  refine wpS_of_wp ?_
  refine Jbj (Γ:=Γ) (t:=t) (pure:=pure) ht rfl (by rw[hroot,hrt]) hm hpure hnp c _ _ hcode.1.1.1 (fun ex σ h a e' hk hs' hw'=>?_) _ _ _ e h ((Jpc hargs hl (Nat.le_of_ble_eq_true hcode.1.2)).put (some k) (by
   have:=Nat.le_of_ble_eq_true hcode.2
   simp only[ne_eq,Option.some.injEq]
   intro h; subst h; exact absurd this (Nat.not_succ_le_self _)) (.v _)) hwΓ
  have fin:((∃ r,FinWk d.bs.length r h d.bs' d.ts')∧(VT t.P σ h fn.results.toList).1∧(Jee (VT t.P σ h fn.results.toList).2).isSome=true∧dfL (σ DS)=[]∧d.u=d.u) →
    a.defers=[]∧∃ u',({ c₀ with mode:=u1 }:Frame)::cs={ c₀ with mode:=u' }::cs∧∃ v,(results fn a.tmps).run t.P e'.w=.ok v e'.w∧∃ v2 e2,Ending.returned v=.returned v2∧settle u'=Jd0 d.u'∧e2.w=e'.w∧GFin t.P d.bs.length d.ts.length e d.bs' d.ts' e2:=by
   rintro ⟨⟨r,k1⟩,k2,k3,k4,-⟩
   obtain⟨av,k3⟩:=Option.isSome_iff_exists.1 k3
   obtain⟨v,h1,h2⟩:=Jld (Γ:=Γ) hs'.2.2 hw' hcode.1.1.2 k2 k3
   exact⟨hs'.2.1.1.nil k4,u1,rfl,v,h1,v,renE r e',rfl,by rw[hs1,hu']; rfl,rfl,k1.fin hroot hw' (fun e' hw=>hw.reCtx rfl rfl rfl rfl rfl rfl)⟩
  cases ex with
  | normal=>exact fin hk
  | ret=>exact fin hk
  | exit id=>exact hk.elim
  | goto l=>exact hk.elim
  | panic ch=>exact hk.elim
  | outgrown=>exact hk.elim
 refine wpS_seq (wpS_region ?_)
 have hrun:∀ (a:Act) (o:Oper),o.op=.call { callee:=.builtin .recover,args:=#[],argTypes:=#[] }→(execOp a.eval o).run t.P e.w=.ok .recover e.w:=by
  intro a o ho; simp only[execOp,ho]; rfl
 show wpOpsS t.P (Jla k ty ps) _ [0] _ _ _
 unfold wpOpsS
 have h0:(Jla k ty ps)[0]? = some { dst:=some k,op:=.call { callee:=.builtin .recover,args:=#[],argTypes:=#[] },type:=ty,pos:=ps,after:=#[],guard:=none }:=rfl
 rw[h0]
 dsimp only
 rw[if_pos (by rfl),hrun _ _ rfl]
 cases hdu:d.u with
 | none =>
  rw[hdu]at hu key
  have:recoverD (c₀::cs)=none:=by simp[recoverD,hu,Jd0]
  simp only[this]
  exact key c₀ ⟨c₀.mode,rfl,by rw[hu]; rfl⟩
 | some v =>
  rw[hdu]at hu key
  have:recoverD (c₀::cs)=some (v,{ c₀ with mode:=.panicking [{ v:=v,recovered:=true }] }::cs):=by simp[recoverD,hu,Jd0]
  simp only[this]
  exact key _ ⟨_,rfl,rfl⟩
end Go.Proofs.Ytaofbminodhcnaa
