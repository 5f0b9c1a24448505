/- Operations that make or write memory: alloc,box,store,buildSlice,build. -/
import Derived.Test.YtaofbminodhcnaaZcaa
import Derived.Lib.FrozenHead
import Derived.Lib.ConvBytes
set_option linter.unusedVariables false
set_option linter.unusedSimpArgs false
namespace Go.Proofs.Ytaofbminodhcnaa
open Go.RowKit
theorem KT{P:Program}{o:Oper}{a:Act}{w w':World}{v:Value}{K:Act→World→Prop}{Q:Exit→Act→World→Prop}
  (hr:(execOp a.eval o).run P w=.ok (.value v) w') (hk:K (a.put o.dst v) w'):o.wp P a w K Q:=by
 unfold Oper.wp; rw[hr]; exact hk
theorem JcR{P:Program}{o:Oper}{a:Act}{w w':World}{K:Act→World→Prop}{Q:Exit→Act→World→Prop}
  (hr:(execOp a.eval o).run P w=.ok .skip w') (hk:K (a.put o.dst undef) w'):o.wp P a w K Q:=by
 unfold Oper.wp; rw[hr]; exact hk
def D.one:D→Bool
 | .v x=>x.oneCell'
 | .sl _ _=>true
 | _=>false
def C.one:C→Bool
 | .d x=>x.one
 | .ex _ y=>y.one
 | .top=>false
 | .arr _ _=>false
 | .bar _=>false
 | .kc _=>false
 | .ob _=>false
 | _=>true
def AV.row:AV→List C
 | .c (.d (.ag l))=>l.map .d
 | .c x=>[x]
 | .ag l=>l
 | .tu _=>[]
 | .df _=>[]
def AV.rowOk:AV→Bool
 | .c (.d (.v x))=>x.oneCell'
 | .c (.d (.tu _))=>false
 | .c (.ex _ d)=>d.one
 | .c .top=>false
 | .c (.arr _ _)=>false
 | .c (.bar _)=>false
 | .c (.kc _)=>false
 | .c (.ob _)=>false
 | .ag l=>l.all C.noK
 | .tu _=>false
 | .df _=>false
 | _=>true
theorem Jse{c:C}(h:c.one=true):c.noK=true:=by cases c <;> first | rfl | cases h
theorem AV.rowOk_noK:∀ {x:AV},x.rowOk=true→∀ z∈x.row,z.noK=true
 | .ag l,h,z,hc=>by
  have h:l.all C.noK=true:=h
  exact(List.all_eq_true.1 h) z hc
 | .c (.d (.ag l)),_,z,hc=>by
  obtain⟨d,_,rfl⟩:=List.mem_map.1 hc
  rfl
 | .c (.d (.v _)),_,z,hc=>by simp[AV.row]at hc; subst hc; rfl
 | .c (.d (.sl _ _)),_,z,hc=>by simp[AV.row]at hc; subst hc; rfl
 | .c (.d (.ne _)),_,z,hc=>by simp[AV.row]at hc; subst hc; rfl
 | .c (.d (.tu _)),_,z,hc=>by simp[AV.row]at hc; subst hc; rfl
 | .c (.sl _ _ _),_,z,hc=>by simp[AV.row]at hc; subst hc; rfl
 | .c (.pt _ _),_,z,hc=>by simp[AV.row]at hc; subst hc; rfl
 | .c (.pp _),_,z,hc=>by simp[AV.row]at hc; subst hc; rfl
 | .c (.ex _ _),_,z,hc=>by simp[AV.row]at hc; subst hc; rfl
 | .c .top,_,z,hc=>by simp[AV.row]at hc; subst hc; rfl
 | .c (.arr _ _),_,z,hc=>by simp[AV.row]at hc; subst hc; rfl
 | .c (.os _ _ _ _),_,z,hc=>by simp[AV.row]at hc; subst hc; rfl
 | .c (.pa _ _ _ _),_,z,hc=>by simp[AV.row]at hc; subst hc; rfl
 | .c .nl,_,z,hc=>by simp[AV.row]at hc; subst hc; rfl
 | .c (.fs _ _),_,z,hc=>by simp[AV.row]at hc; subst hc; rfl
 | .c (.clo _ _),_,z,hc=>by simp[AV.row]at hc; subst hc; rfl
 | .c (.op _ _ _),_,z,hc=>by simp[AV.row]at hc; subst hc; rfl
 | .c (.bar _),_,z,hc=>by simp[AV.row]at hc; subst hc; rfl
 | .c (.mo _),_,z,hc=>by simp[AV.row]at hc; subst hc; rfl
 | .c (.fm _),_,z,hc=>by simp[AV.row]at hc; subst hc; rfl
 | .tu _,_,z,hc=>by simp[AV.row]at hc
 | .df _,_,z,hc=>by simp[AV.row]at hc
theorem VB{v:Value}(h:v.oneCell'=true):v.cells=#[v]:=by cases v <;> simp_all [Value.oneCell',Value.cells]
theorem R1.slOne{w:World}{S:Nat→Nat→Prop}{sz:Nat}{l:List D}{v:Value}(h:R1 w S (.sl sz l) v):v.oneCell'=true:=by
 rcases h.slInv with⟨_,o,rfl⟩|⟨vs,b,of,cap,rfl,_⟩ <;> rfl
theorem R1.one{w:World}{S:Nat→Nat→Prop}:∀ {d:D} {v:Value},R1 w S d v→d.one=true→v.oneCell'=true
 | .v x,v,h,k=>by have:=R1.vInv h; subst this; exact k
 | .sl _ _,v,h,_=>R1.slOne h
theorem RC.one{e:Env}:∀ {c:C} {v:Value},RC e c v→c.one=true→v.oneCell'=true
 | .d (.v x),v,h,k=>by have:=R1.vInv h; subst this; exact k
 | .d (.sl _ _),v,h,_=>R1.slOne h
 | .sl _ _ _,v,h,_=>R1.slOne h.1
 | .pt _ _,v,⟨_,_,h⟩,_=>by subst h; rfl
 | .pp _,v,⟨_,_,_,h,_⟩,_=>by subst h; rfl
 | .ex _ _,v,h,k=>R1.one h.2 k
 | .top,_,_,k=>by cases k
 | .os _ _ _ _,v,h,_=>by
  rcases h with⟨_,_,h⟩|⟨_,_,_,_,h,_⟩ <;> subst h <;> rfl
 | .fs _ _,v,h,_=>R1.slOne h.1
 | .clo _ _,v,⟨_,_,h⟩,_=>by subst h; rfl
 | .op _ _ _,v,h,_=>by
  rcases h.2 with⟨_,h⟩|⟨_,_,_,h⟩ <;> subst h <;> rfl
 | .pa _ _ _ _,v,⟨_,_,h⟩,_=>by subst h; rfl
 | .nl,v,⟨_,h,_⟩,_=>by subst h; rfl
 | .mo _,v,⟨_,_,h⟩,_=>by subst h; rfl
 | .fm _,v,⟨_,_,_,h,_⟩,_=>by subst h; rfl
theorem RCs.one{e:Env}:∀ {l:List C} {vs:List Value},RCs e l vs→l.all C.one=true→∀ v∈vs,v.oneCell'=true
 | [],[],_,_,v,hv=>by simp at hv
 | c::l,x::vs,⟨h1,h2⟩,h,v,hv=>by
  simp only[List.all_cons,Bool.and_eq_true]at h
  simp only[List.mem_cons]at hv
  rcases hv with rfl | hv
  ·exact h1.one h.1
  ·exact RCs.one h2 h.2 v hv
theorem RA.row{e:Env}:∀ {x:AV} {v:Value},RA e x v→x.rowOk=true→RCs e x.row v.cells.toList
 | .c (.d (.ag l)),v,h,_=>by
  obtain⟨vs,rfl,h2⟩:=R1.agInv h
  exact RCs.ofD h2
 | .c (.d (.v y)),v,h,k=>by
  have:=R1.vInv h
  subst this
  rw[VB k]
  exact⟨h,trivial⟩
 | .c (.d (.sl _ _)),v,h,_=>by rw[VB (R1.slOne h)]; exact⟨h,trivial⟩
 | .c (.d (.ne b)),v,h,_=>by
  have h':RD e.w e.S (.one (.ne b) v):=h
  cases h' with
  | ne0=>exact⟨h,trivial⟩
  | ne1 t p=>exact⟨h,trivial⟩
 | .c (.sl _ _ _),v,h,_=>by rw[VB (R1.slOne h.1)]; exact⟨h,trivial⟩
 | .c (.mo n),v,h,_=>by
  obtain⟨b,k1,rfl⟩:=h
  exact⟨⟨b,k1,rfl⟩,trivial⟩
 | .c (.fm _),v,h,_=>by
  obtain⟨b,es,c,rfl,k2⟩:=h
  exact⟨⟨b,es,c,rfl,k2⟩,trivial⟩
 | .c (.pt n off),v,h,_=>by
  have h':=h
  obtain⟨_,_,h⟩:=h; subst h; exact⟨h',trivial⟩
 | .c (.pp _),v,h,_=>by
  have h':=h
  obtain⟨_,_,_,h,_⟩:=h; subst h; exact⟨h',trivial⟩
 | .c (.ex _ _),v,h,k=>by rw[VB (R1.one h.2 k)]; exact⟨h,trivial⟩
 | .c .top,_,_,k=>by cases k
 | .c (.os n sz off len),v,h,_=>by rw[VB (RC.one (c:=.os n sz off len) h rfl)]; exact⟨h,trivial⟩
 | .c (.fs sz l),v,h,_=>by rw[VB (RC.one (c:=.fs sz l) h rfl)]; exact⟨h,trivial⟩
 | .c (.clo f ns),v,h,_=>by rw[VB (RC.one (c:=.clo f ns) h rfl)]; exact⟨h,trivial⟩
 | .c (.op p n off),v,h,_=>by rw[VB (RC.one (c:=.op p n off) h rfl)]; exact⟨h,trivial⟩
 | .c (.pa n sz i off),v,h,_=>by rw[VB (RC.one (c:=.pa n sz i off) h rfl)]; exact⟨h,trivial⟩
 | .c .nl,v,h,_=>by rw[VB (RC.one (c:=.nl) h rfl)]; exact⟨h,trivial⟩
 | .ag _,v,⟨vs,h1,h2⟩,_=>by subst h1; exact h2
theorem R1.nilAny{w:World}{S:Nat→Nat→Prop}{sz sz':Nat}{v:Value}(h:R1 w S (.sl sz []) v):R1 w S (.sl sz' []) v:=by
 rcases h.slInv with⟨_,_,rfl⟩|⟨vs,b,o,cap,rfl,_⟩
 ·exact .slnil _ _
 ·exact RD.sl _ [] [] b o cap .anil (by simp) (by simp) (by simp)
def sizeC(s:Nat):C→C
 | .sl 0 [] k=>.sl s [] k
 | .d (.sl 0 [])=>.d (.sl s [])
 | c=>c
theorem RC.sizeC{e:Env}(s:Nat){c:C}{v:Value}(h:RC e c v):RC e (sizeC s c) v:=by
 unfold Proofs.Ytaofbminodhcnaa.sizeC
 split
 ·exact⟨h.1.nilAny,h.2⟩
 ·exact R1.nilAny h
 ·exact h
def sizeRow:List Nat→List C→List C
 | s::ss,c::cs=>sizeC s c::sizeRow ss cs
 | _,cs=>cs
theorem RCs.sizeRow{e:Env}:∀ (ss:List Nat) {l:List C} {vs:List Value},RCs e l vs→RCs e (sizeRow ss l) vs
 | [],_,_,h=>by simpa [Proofs.Ytaofbminodhcnaa.sizeRow] using h
 | _::_,[],_,h=>by simpa [Proofs.Ytaofbminodhcnaa.sizeRow] using h
 | s::ss,_::_,_::_,⟨h1,h2⟩=>⟨RC.sizeC s h1,RCs.sizeRow ss h2⟩
theorem JtD{s:Nat}{c:C}:(sizeC s c).noK=c.noK:=by unfold sizeC; split <;> rfl
theorem Jfu:∀ (ss:List Nat) {l:List C},(∀ c∈l,c.noK=true)→∀ c∈sizeRow ss l,c.noK=true
 | [],_,h=>by simpa [sizeRow] using h
 | _::_,[],h=>by simp[sizeRow]
 | s::ss,x::l,h=>fun c hc=>by
  simp only[sizeRow,List.mem_cons]at hc
  rcases hc with rfl | hc
  ·rw[JtD]; exact h x (by simp)
  ·exact Jfu ss (fun y hy=>h y (by simp[hy])) c hc
theorem Jw9(v:Value):(ofV v).noK=true:=by unfold ofV; split <;> rfl
theorem Jff:∀ (ss:List Nat) (l:List C),(sizeRow ss l).length=l.length
 | [],_=>by simp[sizeRow]
 | _::_,[]=>by simp[sizeRow]
 | _::ss,_::l=>by simp[sizeRow,Jff ss l]
def sizeD0(s:Nat):D→D
 | .sl 0 []=>.sl s []
 | d=>d
def sizeDs:List Nat→List D→List D
 | s::ss,d::ds=>sizeD0 s d::sizeDs ss ds
 | _,ds=>ds
def sizeD(ss:List Nat):D→D
 | .ag l=>.ag (sizeDs ss l)
 | d=>sizeD0 (ss.headD 0) d
theorem R1.sizeD0{w:World}{S:Nat→Nat→Prop}(s:Nat){d:D}{v:Value}(h:R1 w S d v):R1 w S (sizeD0 s d) v:=by
 unfold Proofs.Ytaofbminodhcnaa.sizeD0
 split
 ·exact R1.nilAny h
 ·exact h
theorem Rn.sizeDs{w:World}{S:Nat→Nat→Prop}:∀ (ss:List Nat) {l:List D} {vs:List Value},Rn w S l vs→Rn w S (sizeDs ss l) vs
 | [],_,_,h=>by simpa [Proofs.Ytaofbminodhcnaa.sizeDs] using h
 | _::_,[],_,h=>by simpa [Proofs.Ytaofbminodhcnaa.sizeDs] using h
 | s::ss,_::_,_,h=>by cases h with | acons _ _ _ _ h1 h2=>exact .acons _ _ _ _ (R1.sizeD0 s h1) (Rn.sizeDs ss h2)
theorem R1.sizeD{w:World}{S:Nat→Nat→Prop}(ss:List Nat){d:D}{v:Value}(h:R1 w S d v):R1 w S (sizeD ss d) v:=by
 unfold Proofs.Ytaofbminodhcnaa.sizeD
 split
 ·obtain⟨vs,rfl,k⟩:=R1.agInv h
  exact .ag _ _ (Rn.sizeDs ss k)
 ·exact R1.sizeD0 _ h
theorem Jh9:∀ (ss:List Nat) (l:List D),(sizeDs ss l).length=l.length
 | [],_=>by simp[sizeDs]
 | _::_,[]=>by simp[sizeDs]
 | _::ss,_::l=>by simp[sizeDs,Jh9 ss l]
theorem JqB(ss:List Nat)(d:D):(sizeD ss d).cells.length=d.cells.length:=by
 unfold sizeD
 split
 ·simp[D.cells,Jh9]
 ·unfold sizeD0
  split <;> rfl
def cSz(P:Program):Nat→TypeId→List Nat
 | 0,_=>[]
 | n+1,t=>match P.underlying t with
  | some (.struct fs)=>fs.toList.flatMap fun f=>cSz P n f.type
  | some (.slice e)=>[Jo P e]
  | _=>[0]
def tCS(P:Program)(t:TypeId):List Nat:=cSz P 6 t
def tZ(P:Program)(t:TypeId):List Value:=(((P.info? t).bind (·.zero)).map (·.cells.toList)).getD []
def tZok(P:Program)(t:TypeId):Bool:=((P.info? t).bind (·.zero)).isSome
theorem XR{P:Program}{t:TypeId}(h:tZok P t=true)(w:World):∃ z,(zeroValue t).run P w=.ok z w∧z.cells.toList=tZ P t∧(P.info? t).bind (·.zero)=some z:=by
 simp only[tZok,Option.isSome_iff_exists]at h
 obtain⟨z,hz⟩:=h
 rw[Option.bind_eq_some_iff]at hz
 obtain⟨i,hi,hz⟩:=hz
 exact⟨z,by simp[zeroValue,typeInfo,hi,hz],by simp[tZ,hi,hz],by simp[hi,hz]⟩
def Hp.box(h:Hp)(row:List C):Hp:={ h with H:=upd h.H h.nx (some row),nx:=h.nx+1 }
theorem WInv.newBox{Γ:Ctx}{h:Hp}{e:Env}(hw:WInv Γ h e){cs:Array Value}{ty:TypeId}{row:List C}(hr:∀ e':Env,e.le e'→e'.τ h.nx=some (tyV ty)→RCs e' row cs.toList)(hkc:∀ c∈row,c.noK=true):
  ∃ e',e'.w=e.w.alloc (.cells cs ty)∧WInv Γ (h.box row) e'∧e.le e'∧e'.ρ h.nx=some e.w.heap.size:=by
 have hg:=Grows.alloc e.w (.cells cs ty)
 obtain⟨w1,l1⟩:=hw.grows (S':=fun b o=>e.S b o∨b=e.w.heap.size) hg (fun b o hb=>⟨fun h=>h.resolve_right (by omega),.inl⟩) (fun b o hb=>by
  simp
  rcases hb with hb | hb
  ·have:=hw.sdom b o hb; omega
  ·omega)
 have hnew:∀ n b,h.H n≠none→e.ρ n=some b→b<e.w.heap.size:=fun n b hn hb=>by
  cases hH:h.H n with
  | none=>exact absurd hH hn
  | some r =>
   obtain⟨ob,q2,_⟩:=hw.boxAny hb r hH
   exact(Array.getElem?_eq_some_iff.1 q2).1
 obtain⟨w2,l2⟩:=w1.addArr (b:=e.w.heap.size) (u:=tyV ty) (row:=row) (heap_alloc_new _ _) (RO.of (.of (hr _ (l1.trans ((Env.le_name (b:=e.w.heap.size) (w1.fresh h.nx (Nat.le_refl _)).2.2.1).trans (Env.le_tok (w1.fresh h.nx (Nat.le_refl _)).2.2.2.1))) (by simp))) (fun _=>by simp)) (fun o _=>.inr rfl) (.inl hw.hB)
  (fun n hn hb=>by have:=hnew n _ hn hb; omega)
  (fun k v hk hv hfull hb=>by
   cases hT:h.T k with
   | none=>exact absurd hT hk
   | some ty =>
    obtain⟨_,v',q1,q2⟩:=hw.tok k ty hT
    simp only at hv
    rw[hv]at q1; simp at q1; subst q1
    obtain⟨sz,n,xs,_,q2,_⟩:=q2.resolve_left hfull
    have:=(q2.1.lt _ hb).2
    omega)
  (fun n hn hm=>by have:=(hw.ext.mu n _ hn hm).lt; omega) hkc
 exact⟨_,rfl,w2,l1.trans l2,by simp⟩
def C.isNilp:C→Bool
 | .d (.v (.pointer none))=>true
 | _=>false
def C.selfN:C→Nat
 | .op _ n 0=>n
 | _=>0
def C.ptN:C→Nat
 | .pt n 0=>n
 | _=>0
def exC:C→Value→C
 | .sl sz [] 0,v=>.ex v (.sl sz [])
 | c,_=>c
def exCs:List C→List Value→List C
 | c::l,v::vs=>exC c v::exCs l vs
 | l,_=>l
theorem Jxu{e:Env}{c:C}{v:Value}(h:RC e c v):RC e (exC c v) v:=by
 unfold exC
 split
 ·exact⟨rfl,h.1⟩
 ·exact h
theorem Jqa{e:Env}:∀ {l:List C} {vs:List Value},RCs e l vs→RCs e (exCs l vs) vs
 | [],[],_=>trivial
 | _::_,_::_,⟨h1,h2⟩=>⟨Jxu h1,Jqa h2⟩
 | [],_::_,h=>h.elim
 | _::_,[],h=>h.elim
def JfO(t:TypeId)(n:Nat)(zs:List Value)(row:List C):List C:=if t=BTY∧(row.headD .top).isNilp=true then .op false n 0::exCs row.tail zs.tail else row
def Jfj(n:Nat)(old new:List C):List C:=if n≠0∧(new.headD .top).ptN=n∧(old.headD .top).selfN=n then .op true n 0::new.tail else new
theorem JsX{e:Env}{t:TypeId}{n:Nat}{row:List C}{vs:List Value}(hτ:e.τ n=some (tyV t))(h:RCs e row vs):RCs e (JfO t n vs row) vs:=by
 unfold JfO
 split
 ·rename_i hc
  obtain⟨rfl,hn⟩:=hc
  match row,vs,h with
  | [],_,_=>cases hn
  | c::r,v::vs,⟨h1,h2⟩ =>
   refine⟨⟨hτ,.inl ⟨rfl,?_⟩⟩,Jqa h2⟩
   simp only[List.headD_cons]at hn
   unfold C.isNilp at hn
   split at hn
   ·exact R1.vInv h1
   ·cases hn
 ·exact h
theorem JqG{e:Env}{n:Nat}{old new:List C}{us vs:List Value}(ho:RCs e old us)(h:RCs e new vs):RCs e (Jfj n old new) vs:=by
 unfold Jfj
 split
 ·rename_i hc
  obtain⟨h0,hp,hs⟩:=hc
  match old,us,ho with
  | [],_,_=>simp[C.selfN]at hs; exact absurd hs.symm h0
  | co::_,_::_,⟨k1,_⟩ =>
   match new,vs,h with
   | [],_,_=>simp[C.ptN]at hp; exact absurd hp.symm h0
   | c::r,v::vs,⟨h1,h2⟩ =>
    refine⟨?_,h2⟩
    simp only[List.headD_cons]at hp hs
    unfold C.ptN at hp
    split at hp
    ·subst hp
     unfold C.selfN at hs
     split at hs
     ·subst hs
      exact⟨k1.1,.inr ⟨rfl,h1⟩⟩
     ·exact absurd hs.symm h0
    ·exact absurd hp.symm h0
 ·exact h
theorem JvZ{c:C}{v:Value}:(exC c v).noK=c.noK:=by unfold exC; split <;> rfl
theorem JoO:∀ {l:List C} {vs:List Value},(∀ c∈l,c.noK=true)→∀ c∈exCs l vs,c.noK=true
 | [],vs,h=>by cases vs <;> simp[exCs]
 | x::l,[],h=>by simpa [exCs] using h
 | x::l,v::vs,h=>fun c hc=>by
  simp only[exCs,List.mem_cons]at hc
  rcases hc with rfl | hc
  ·rw[JvZ]; exact h x (by simp)
  ·exact JoO (fun y hy=>h y (by simp[hy])) c hc
theorem Jsm{t:TypeId}{n:Nat}{zs:List Value}{row:List C}(h:∀ c∈row,c.noK=true):∀ c∈JfO t n zs row,c.noK=true:=by
 unfold JfO
 split
 ·intro c hc
  simp only[List.mem_cons]at hc
  rcases hc with rfl | hc
  ·rfl
  ·exact JoO (fun y hy=>h y (List.mem_of_mem_tail hy)) c hc
 ·exact h
theorem Jsd{n:Nat}{old new:List C}{j:Nat}{Φ:KP}(h:(Jfj n old new)[j]? = some (C.kc Φ)):new[j]? = some (C.kc Φ):=by
 unfold Jfj at h
 split at h
 ·cases j with
  | zero=>simp at h
  | succ j=>simpa using h
 ·exact h
def Jhv(P:Program)(h:Hp)(t:TypeId):AR:=⟨tZok P t=true,.c (.pt h.nx 0),h.box (JfO t h.nx (tZ P t) (sizeRow (tCS P t) ((tZ P t).map ofV)))⟩
theorem Ju6{Γ:Ctx}{σ:Nat→AV}{h:Hp}(o:Oper)(t:TypeId)(ho:o.op=.alloc t)(hp:(Jhv Γ.P h t).pre):
  VR Γ o σ h (Jhv Γ.P h t).val (Jhv Γ.P h t).h:=by
 intro a e hop hw K Q hk
 obtain⟨z,hz,hz2,_⟩:=XR hp e.w
 obtain⟨e',h1,h2,h3,h4⟩:=hw.newBox (cs:=z.cells) (ty:=t) (row:=JfO t h.nx (tZ Γ.P t) (sizeRow (tCS Γ.P t) ((tZ Γ.P t).map ofV))) (fun e' _ hτ=>hz2 ▸ JsX (vs:=tZ Γ.P t) hτ (RCs.sizeRow _ (RCs.ofV _ _)))
  (Jsm (Jfu _ (fun c hc=>by obtain⟨v,_,rfl⟩:=List.mem_map.1 hc; exact Jw9 v)))
 refine KT (v:=.pointer (some ⟨e.w.heap.size,0,none⟩)) (w':=e.w.alloc (.cells z.cells t)) ?_ ?_
 ·simp only[execOp,ho,Instr.alloc,Sem.run_bind,hz,Result.andThen_ok,newVar,newRow,run_newObj,Sem.run_pure]
  rfl
 ·rw[← h1]
  exact hk _ e' h2 h3 ⟨_,h4,rfl⟩
def Jfk(P:Program)(h:Hp)(t:TypeId):AR:=⟨MapT P t,.c (.fm (EM P t [])),h⟩
theorem Jsv{Γ:Ctx}{σ:Nat→AV}{h:Hp}(o:Oper)(t:TypeId)(ho:o.op=.makeMap t none)(hp:(Jfk Γ.P h t).pre):
  VR Γ o σ h (Jfk Γ.P h t).val (Jfk Γ.P h t).h:=by
 intro a e hop hw K Q hk
 obtain⟨w1,l1⟩:=hw.grows (w':=e.w.alloc (.map #[] 0)) (S':=e.S) (Grows.alloc e.w _) (fun b o _=>Iff.rfl) (fun b o hb=>Nat.lt_of_lt_of_le (hw.sdom b o hb) (Grows.alloc e.w _).size)
 refine KT (v:=.map (some e.w.heap.size)) (w':=e.w.alloc (.map #[] 0)) ?_ ?_
 ·simp only[execOp,ho,Option.map_none]
  rw[Sem.run_bind]
  rfl
 ·exact hk _ { e with w:=e.w.alloc (.map #[] 0) } w1 l1 ⟨_,_,_,rfl,heap_alloc_new _ _,Jx4 hp,fun hs=>Nat.lt_irrefl _ (hw.sdom _ _ hs)⟩
def aBox(h:Hp)(σ:Nat→AV)(x:Operand):AR:=⟨(evA σ x).rowOk=true,.c (.pt h.nx 0),h.box (evA σ x).row⟩
theorem Jx0{Γ:Ctx}{σ:Nat→AV}{h:Hp}(o:Oper)(t:TypeId)(x:Operand)(ho:o.op=.box t x)(hp:(aBox h σ x).pre):
  VR Γ o σ h (aBox h σ x).val (aBox h σ x).h:=by
 intro a e hop hw K Q hk
 have hx:=hop x (by simp[ho,Op.operands])
 obtain⟨e',h1,h2,h3,h4⟩:=hw.newBox (cs:=(a.eval x).cells) (ty:=t) (row:=(evA σ x).row) (fun e' hle _=>RCs.mono hle (hx.row hp)) (AV.rowOk_noK hp)
 refine KT (v:=.pointer (some ⟨e.w.heap.size,0,none⟩)) (w':=e.w.alloc (.cells (a.eval x).cells t)) ?_ ?_
 ·simp only[execOp,ho,Instr.box,Sem.run_bind,Result.andThen_ok,newVar,newRow,run_newObj,Sem.run_pure]
  rfl
 ·rw[← h1]
  exact hk _ e' h2 h3 ⟨_,h4,rfl⟩
def putD(d:D)(off:Nat)(ys:List D):D :=
 match d with
 | .ag m=>.ag (m.take off++ys++m.drop (off+ys.length))
 | _=>ys.headD default
theorem JsW{d:D}{off:Nat}{ys:List D}(h:off+ys.length≤d.cells.length)(h0:0<ys.length)(h1:ys.all D.one=true):(putD d off ys).cells=d.cells.take off++ys++d.cells.drop (off+ys.length):=by
 have hone:∀ y:D,y.one=true→y.cells=[y]:=fun y hy=>by cases y <;> first | rfl | cases hy
 have other:d.cells=[d]→(putD d off ys)=ys.headD default→(putD d off ys).cells=d.cells.take off++ys++d.cells.drop (off+ys.length):=fun e1 e2=>by
  rw[e1]at h ⊢
  simp only[List.length_cons,List.length_nil]at h
  match ys,h,h0,h1,e2 with
  | [y],h,_,h1,e2 =>
   have:off=0:=by simp at h; omega
   subst this
   rw[e2]
   simp only[List.all_cons,List.all_nil,Bool.and_true]at h1
   simp[hone y h1]
  | _::_::_,h,_,_,_=>simp at h; omega
 cases d with
 | ag m=>rfl
 | v x=>exact other rfl rfl
 | tu m=>exact other rfl rfl
 | sl sz m=>exact other rfl rfl
 | ne b=>exact other rfl rfl
theorem Jlc{α:Type}(A u B yc:List α)(off:Nat)(h:off+yc.length≤u.length):
  (A++u++B).take (A.length+off)++yc++(A++u++B).drop (A.length+off+yc.length)=A++(u.take off++yc++u.drop (off+yc.length))++B:=by
 have e1:(A++u++B).take (A.length+off)=A++u.take off:=by
  rw[List.append_assoc,List.take_append,List.take_of_length_le (by omega),show A.length+off-A.length=off by omega,List.take_append,show off-u.length=0 by omega,List.take_zero,List.append_nil]
 have e2:(A++u++B).drop (A.length+off+yc.length)=u.drop (off+yc.length)++B:=by
  rw[List.append_assoc,List.drop_append,List.drop_of_length_le (by omega),List.nil_append,show A.length+off+yc.length-A.length=off+yc.length by omega,List.drop_append,show off+yc.length-u.length=0 by omega,List.drop_zero]
 rw[e1,e2]
 simp only[List.append_assoc]
theorem Jos{α:Type}(us:List α)(a k:Nat)(h:a+k≤us.length):us=us.take a++(us.drop a).take k++us.drop (a+k):=by
 rw[← List.drop_drop,List.append_assoc,List.take_append_drop,List.take_append_drop]
def JbR(P:Program)(h:Hp)(t:TypeId)(y:AV)(n sz i off:Nat):Option (List C)→AR
 | some [.arr sz' l]=>⟨sz=sz'∧i<l.length∧JQ P t=true∧y.rowOk=true∧y.row.all C.one=true∧(sizeRow (tCS P t) y.row).all C.isD=true∧((sizeRow (tCS P t) y.row).map C.toD).all D.one=true ∧
   y.row.length=Jo P t∧0<y.row.length∧off+y.row.length≤sz,.c (.d (.v undef)),
   { h with H:=upd h.H n (some [.arr sz (l.set i (putD (l.getD i default) off ((sizeRow (tCS P t) y.row).map C.toD)))]) }⟩
 | some [.arr sz' l,_]=>⟨sz=sz'∧off=0∧i=l.length∧JQ P t=true∧y.rowOk=true∧y.row.all C.one=true∧y.row.length=Jo P t∧y.row.length=1,.c (.d (.v undef)),
   { h with H:=upd h.H n (some (.arr sz l::sizeRow (tCS P t) y.row)) }⟩
 | _=>.bad h
def JeZ(P:Program)(h:Hp)(σ:Nat→AV)(t:TypeId)(x y:Operand):AR :=
 match evA σ x with
 | .c (.pt n off)=>match h.H n with
  | some row=>⟨rowP row=true∧JQ P t=true∧(evA σ y).rowOk=true∧(evA σ y).row.all C.one=true∧(evA σ y).row.length=Jo P t∧off+(evA σ y).row.length≤row.length,.c (.d (.v undef)),
    { h with H:=upd h.H n (some (Jfj n row (row.take off++sizeRow (tCS P t) (evA σ y).row++row.drop (off+(evA σ y).row.length)))) }⟩
  | none=>.bad h
 | .c (.pa n sz i off)=>JbR P h t (evA σ y) n sz i off (h.H n)
 | _=>.bad h
theorem Jvf{Γ:Ctx}{σ:Nat→AV}{h:Hp}(o:Oper)(t:TypeId)(x y:Operand)(ho:o.op=.store t x y)(hp:(JeZ Γ.P h σ t x y).pre):
  VR Γ o σ h (JeZ Γ.P h σ t x y).val (JeZ Γ.P h σ t x y).h:=by
 unfold JeZ at *
 split at hp
 ·rename_i n off hx
  split at hp
  ·rename_i row hrow
   obtain⟨p0,p1,p2,p3,p4,p5⟩:=hp
   intro a e hop hw K Q hk
   have h1:=hop x (by simp[ho,Op.operands])
   rw[hx]at h1
   obtain⟨b,h2,h3⟩:=h1
   have hy:=(hop y (by simp[ho,Op.operands])).row p2
   obtain⟨b',cs,ty,h4,h5,h6,h7,_⟩:=hw.boxAt h2 row hrow (ZO p0)
   have h6:=h6.plain p0
   rw[h2]at h4
   simp at h4
   subst h4
   have hl1:=hy.length
   have hl2:=h6.length
   have hrn:=((h6.take off).append (hy.sizeRow (tCS Γ.P t))).append (h6.drop (off+(evA σ y).row.length))
   obtain⟨w2,l2⟩:=hw.setBox (vs:=cs.toList.take off++(a.eval y).cells.toList++cs.toList.drop (off+(evA σ y).row.length)) hrow h2 h5 (.of (JqG h6 hrn)) (by simp at hl1 hl2 ⊢; omega) (ZO p0) (fun _=>p0) (fun j Φ hj=>by
    have hj:=Jsd hj
    have hno:=Jfu (tCS Γ.P t) (AV.rowOk_noK p2)
    have hsl:=Jff (tCS Γ.P t) (evA σ y).row
    have htk:(row.take off).length=off:=by rw[List.length_take]; omega
    have htk':(cs.toList.take off).length=off:=by rw[List.length_take]; omega
    rcases Nat.lt_or_ge j off with hlt | hge
    ·rw[List.append_assoc,List.getElem?_append_left (by omega),List.getElem?_take_of_lt hlt]at hj
     refine⟨hj,?_⟩
     rw[List.append_assoc,List.getElem?_append_left (by omega),List.getElem?_take_of_lt hlt]; simp
    ·rcases Nat.lt_or_ge j (off+(evA σ y).row.length) with hlt | hge2
     ·rw[List.append_assoc,List.getElem?_append_right (by omega),List.getElem?_append_left (by omega)]at hj
      exact(Jcr hno hj).elim
     ·rw[List.getElem?_append_right (by simp only[List.length_append]; omega),List.getElem?_drop]at hj
      simp only[List.length_append,htk,hsl]at hj
      rw[show off+(evA σ y).row.length+(j-(off+(evA σ y).row.length))=j by omega]at hj
      refine⟨hj,?_⟩
      rw[List.getElem?_append_right (by simp only[List.length_append]; omega),List.getElem?_drop]
      simp only[List.length_append,htk',hl1]
      rw[show off+(evA σ y).row.length+(j-(off+(evA σ y).row.length))=j by omega]
      simp)
   have hsc:=run_storeCells_at Γ.P b off ty (a.eval y).cells.toList 0 cs e.w h5 (by simp at hl1 hl2 ⊢; omega) (hy.one p3)
   simp only[Nat.add_zero]at hsc
   refine JcR ?_ (hk undef _ w2 l2 (.v _))
   have hsz:=J6 Γ.P t e.w p1
   have hcs:(a.eval y).cells.size=Jo Γ.P t:=by rw[← p4,← hl1]; simp
   simp only[execOp,ho,h3,Instr.storeAt,Instr.sureAddr,storeVar,Sem.run_bind,Sem.run_pure,Result.andThen_ok,hsz,hcs,ne_eq,not_true_eq_false,if_false,hsc,hl1]
  ·exact hp.elim
 ·rename_i n sz i off hx
  unfold JbR at *
  split at hp
  ·rename_i sz' l hrow
   obtain⟨rfl,hil,p1,p2,p3,p6,p7,p4,p8,p5⟩:=hp
   intro a e hop hw K Q hk
   have h1:=hop x (by simp[ho,Op.operands])
   rw[hx]at h1
   obtain⟨b,h2,h3⟩:=h1
   have hy:=(hop y (by simp[ho,Op.operands])).row p2
   obtain⟨b',cs,ty,h4,h5,h6,h7,_⟩:=hw.boxAt h2 _ hrow rfl
   rw[h2]at h4
   simp at h4
   subst h4
   obtain⟨us,ts,zs,cap,k1,k2,k3,k4,k5,k6,k7,k8,k9⟩:=h6
   have hts:ts=[]:=by cases ts with | nil=>rfl | cons _ _=>exact k4.elim
   subst hts
   rw[List.append_nil]at k1
   have hl1:=hy.length
   have hyD:=RCs.toD p6 (hy.sizeRow (tCS Γ.P t))
   have hul:us.length=l.length * sz:=by rw[k2.length,Vt k3]
   have hmul:i * sz+sz≤l.length * sz:=by have:=Nat.mul_le_mul_right sz (show i+1≤l.length by omega); rwa [Nat.add_mul,Nat.one_mul]at this
   have hd:l[i]? = some (l.getD i default):=by simp[List.getD_eq_getElem?_getD,List.getElem?_eq_getElem hil]
   have hdl:(l.getD i default).cells.length=sz:=k3 _ (by rw[List.getD_eq_getElem?_getD,List.getElem?_eq_getElem hil]; simp)
   have hfl:=Jhu k3 _ _ hd
   have hmid:=Jos us (i * sz) sz (by omega)
   generalize hA:us.take (i * sz)=A at hmid
   generalize hu:(us.drop (i * sz)).take sz=u at hmid
   generalize hB:us.drop (i * sz+sz)=B at hmid
   have hAl:A.length=i * sz:=by rw[← hA,List.length_take]; omega
   have hul':u.length=sz:=by rw[← hu,List.length_take,List.length_drop]; omega
   have hru:Rn e.w e.S (l.getD i default).cells u:=by rw[← hu,← hfl]; exact(k2.drop _).take _
   have hrA:Rn e.w e.S ((l.take i).flatMap D.cells) A:=by rw[← hA,JfE _ k3]; exact k2.take _
   have hrB:Rn e.w e.S ((l.drop (i+1)).flatMap D.cells) B:=by rw[← hB,JgV _ k3,Nat.add_mul,Nat.one_mul]; exact k2.drop _
   have hyl:((sizeRow (tCS Γ.P t) (evA σ y).row).map C.toD).length=(evA σ y).row.length:=by rw[List.length_map,Jff]
   have hpc:=JsW (d:=l.getD i default) (off:=off) (ys:=(sizeRow (tCS Γ.P t) (evA σ y).row).map C.toD) (by rw[hyl,hdl]; exact p5) (by rw[hyl]; exact p8) p7
   have hpl:(putD (l.getD i default) off ((sizeRow (tCS Γ.P t) (evA σ y).row).map C.toD)).cells.length=sz:=by
    rw[hpc]
    simp only[List.length_append,List.length_take,List.length_drop,hyl,hdl]
    omega
   have hrn:Rn e.w e.S ((l.set i (putD (l.getD i default) off ((sizeRow (tCS Γ.P t) (evA σ y).row).map C.toD))).flatMap D.cells) (A++(u.take off++(a.eval y).cells.toList++u.drop (off+(a.eval y).cells.toList.length))++B):=by
    rw[List.set_eq_take_append_cons_drop,if_pos hil,List.flatMap_append,List.flatMap_cons,hpc,← List.append_assoc]
    refine(hrA.append (((hru.take _).append hyD).append ?_)).append hrB
    rw[hyl,← hl1]
    exact hru.drop _
   have hcs0:cs.toList=A++u++(B++zs):=by rw[k1,hmid,List.append_assoc (A++u)]
   have hsp:=Jlc A u (B++zs) (a.eval y).cells.toList off (by rw[hl1,hul']; exact p5)
   rw[← hcs0,hAl]at hsp
   have hcl:cs.toList.length=A.length+(u.length+(B.length+zs.length)):=by rw[hcs0]; simp only[List.length_append]; omega
   have hnl:(A++(u.take off++(a.eval y).cells.toList++u.drop (off+(a.eval y).cells.toList.length))++(B++zs)).length=cs.size:=by
    rw[← Array.length_toList,hcl]
    simp only[List.length_append,List.length_take,List.length_drop]
    omega
   obtain⟨w2,l2⟩:=hw.setBox (vs:=A++(u.take off++(a.eval y).cells.toList++u.drop (off+(a.eval y).cells.toList.length))++(B++zs)) (row':=[.arr sz (l.set i (putD (l.getD i default) off ((sizeRow (tCS Γ.P t) (evA σ y).row).map C.toD)))]) hrow h2 h5
    ⟨_,[],zs,cap,by rw[List.append_nil,← List.append_assoc],hrn,fun d hdm=>by
     rcases List.mem_or_eq_of_mem_set hdm with h | h
     ·exact k3 d h
     ·rw[h]; exact hpl,trivial,.inl rfl,k6,by rw[hnl]; simpa using k7,k8,k9⟩ hnl rfl (fun hq=>by cases hq) (fun j Φ hj=>(Jcr (l:=[C.arr _ _]) (by simp[C.noK]) hj).elim)
   have hsc:=run_storeCells_at Γ.P b (i * sz+off) ty (a.eval y).cells.toList 0 cs e.w h5 (by rw[← Array.length_toList,hcl]; omega) (hy.one p3)
   simp only[Nat.add_zero]at hsc
   rw[hsp]at hsc
   refine JcR ?_ (hk undef _ w2 l2 (.v _))
   have hsz:=J6 Γ.P t e.w p1
   have hcs:(a.eval y).cells.size=Jo Γ.P t:=by rw[← p4,← hl1]; simp
   simp only[execOp,ho,h3,Instr.storeAt,Instr.sureAddr,storeVar,Sem.run_bind,Sem.run_pure,Result.andThen_ok,hsz,hcs,ne_eq,not_true_eq_false,if_false,hsc]
  ·rename_i sz' l c hrow
   obtain⟨rfl,rfl,rfl,p1,p2,p3,p4,p8⟩:=hp
   intro a e hop hw K Q hk
   have h1:=hop x (by simp[ho,Op.operands])
   rw[hx]at h1
   obtain⟨b,h2,h3⟩:=h1
   have hy:=(hop y (by simp[ho,Op.operands])).row p2
   obtain⟨b',cs,ty,h4,h5,h6,h7,_⟩:=hw.boxAt h2 _ hrow rfl
   rw[h2]at h4
   simp at h4
   subst h4
   obtain⟨us,ts,zs,cap,k1,k2,k3,k4,k5,k6,k7,k8,k9⟩:=h6
   have hz:sz=1:=k5.resolve_left (by simp)
   have hl1:=hy.length
   have hul:us.length=l.length * sz:=by rw[k2.length,Vt k3]
   have htl:ts.length=1:=by simpa using k4.length
   have hsp:=Jlc us ts zs (a.eval y).cells.toList 0 (by omega)
   rw[← k1]at hsp
   have hcl:cs.toList.length=us.length+(ts.length+zs.length):=by rw[k1]; simp only[List.length_append]; omega
   have e0:ts.take 0++(a.eval y).cells.toList++ts.drop (0+(a.eval y).cells.toList.length)=(a.eval y).cells.toList:=by
    rw[List.take_zero,List.nil_append,List.drop_of_length_le (by omega),List.append_nil]
   rw[e0,Nat.add_zero,hul]at hsp
   have hnl:(us++(a.eval y).cells.toList++zs).length=cs.size:=by
    rw[← Array.length_toList,hcl]
    simp only[List.length_append]
    omega
   obtain⟨w2,l2⟩:=hw.setBox (vs:=us++(a.eval y).cells.toList++zs) (row':=.arr sz l::sizeRow (tCS Γ.P t) (evA σ y).row) hrow h2 h5
    ⟨us,_,zs,cap,rfl,k2,k3,hy.sizeRow _,.inr hz,k6,by rw[hnl]; simpa using k7,k8,k9⟩ hnl rfl (fun hq=>by cases hq)
    (fun j Φ hj=>(Jcr (l:=C.arr sz l::sizeRow (tCS Γ.P t) (evA σ y).row) (fun c hc=>by
     rcases List.mem_cons.1 hc with rfl | hc
     ·rfl
     ·exact Jfu _ (AV.rowOk_noK p2) c hc) hj).elim)
   have hsc:=run_storeCells_at Γ.P b (l.length * sz+0) ty (a.eval y).cells.toList 0 cs e.w h5 (by rw[← Array.length_toList,hcl]; omega) (hy.one p3)
   simp only[Nat.add_zero]at hsc
   rw[hsp]at hsc
   refine JcR ?_ (hk undef _ w2 l2 (.v _))
   have hsz:=J6 Γ.P t e.w p1
   have hcs:(a.eval y).cells.size=Jo Γ.P t:=by rw[← p4,← hl1]; simp
   simp only[execOp,ho,h3,Instr.storeAt,Instr.sureAddr,storeVar,Sem.run_bind,Sem.run_pure,Result.andThen_ok,hsz,hcs,ne_eq,not_true_eq_false,if_false,hsc,Nat.add_zero]
  ·exact hp.elim
 ·exact hp.elim
theorem JiT:∀ (l:List Value) (k off:Nat) (cs:Array Value),off+k+l.length≤cs.size →
  ((l.zipIdx k).foldl (fun(cs:Array Value) p=>cs.setIfInBounds (off+p.2) p.1) cs).toList=cs.toList.take (off+k)++l++cs.toList.drop (off+k+l.length)
 | [],k,off,cs,_=>by simp
 | v::l,k,off,cs,h=>by
  simp only[List.zipIdx_cons,List.foldl_cons]
  rw[JiT l (k+1) off _ (by simp at h ⊢; omega)]
  have hlt:off+k<cs.toList.length:=by simp at h ⊢; omega
  rw[Array.toList_setIfInBounds,show off+(k+1)=off+k+1 by omega,List.set_eq_take_append_cons_drop,if_pos hlt]
  generalize cs.toList=L at hlt ⊢
  have c1:(L.take (off+k)).length=off+k:=by simp; omega
  have t1:(L.take (off+k)++v::L.drop (off+k+1)).take (off+k+1)=L.take (off+k)++[v]:=by
   rw[List.take_append,c1,List.take_of_length_le (by omega),show off+k+1-(off+k)=1 by omega]; rfl
  have t2:(L.take (off+k)++v::L.drop (off+k+1)).drop (off+k+1+l.length)=L.drop (off+k+(l.length+1)):=by
   have t3:(L.take (off+k)).drop (off+k+1+l.length)=[]:=List.drop_of_length_le (by omega)
   rw[List.drop_append,c1,t3,show off+k+1+l.length-(off+k)=l.length+1 by omega,List.nil_append,List.drop_succ_cons,List.drop_drop]
   congr 1
   omega
  rw[t1,t2]
  simp
theorem JkH(size:Nat):∀ (parts:List (Nat×Value)) (k:Nat) (cells:Array Value),
  (∀ i p,parts[i]? = some p→p.1=k+i∧p.2.cells.size=size)→(k+parts.length) * size≤cells.size →
  ∃ out,Instr.fill (fun i=>some (i * size,size)) cells parts=some out∧out.toList=cells.toList.take (k * size)++parts.flatMap (·.2.cells.toList)++cells.toList.drop ((k+parts.length) * size)
 | [],k,cells,_,_=>⟨cells,rfl,by simp⟩
 | (i,v)::parts,k,cells,h,hs=>by
  have h0:=h 0 (i,v) rfl
  simp at h0
  obtain⟨rfl,hv⟩:=h0
  have hle:(i+1) * size≤cells.size:=Nat.le_trans (Nat.mul_le_mul_right _ (by simp)) hs
  rw[Nat.add_mul,Nat.one_mul]at hle
  have hset:=JiT v.cells.toList 0 (i * size) cells (by simp[hv]; omega)
  simp only[Nat.add_zero]at hset
  have hfold:(v.cells.zipIdx.foldl (fun cs (x:Value×Nat)=>cs.setIfInBounds (i * size+x.2) x.1) cells)=((v.cells.toList.zipIdx 0).foldl (fun(cs:Array Value) p=>cs.setIfInBounds (i * size+p.2) p.1) cells):=by
   rw[← Array.foldl_toList,Array.toList_zipIdx]
  obtain⟨out,h1,h2⟩:=JkH size parts (i+1) (v.cells.zipIdx.foldl (fun cs (x:Value×Nat)=>cs.setIfInBounds (i * size+x.2) x.1) cells)
   (fun j p hj=>by
    have:=h (j+1) p (by simpa using hj)
    exact⟨by omega,this.2⟩) (by
    have hsz:(v.cells.zipIdx.foldl (fun cs (x:Value×Nat)=>cs.setIfInBounds (i * size+x.2) x.1) cells).size=cells.size:=by
     rw[hfold]
     have:=congrArg List.length hset
     simp[hv]at this
     omega
    rw[hsz]
    simpa [show i+1+parts.length=i+(parts.length+1) by omega] using hs)
  refine⟨out,?_,?_⟩
  ·unfold Instr.fill
   simp only[hv,ne_eq,not_true_eq_false,decide_false,Bool.false_or,decide_eq_true_eq]
   rw[if_neg (by omega)]
   exact h1
  ·rw[h2,hfold,hset]
   have e1:(i+1) * size=i * size+size:=by rw[Nat.add_mul,Nat.one_mul]
   have e2:(i+1+parts.length) * size=(i+(parts.length+1)) * size:=by congr 1; omega
   have hvl:v.cells.toList.length=size:=by simpa using hv
   have e3:(i+1+parts.length) * size=i * size+size+parts.length * size:=by rw[Nat.add_mul,e1]
   rw[List.flatMap_cons,List.length_cons]
   have c1:(cells.toList.take (i * size)).length=i * size:=by simp; omega
   generalize hA:cells.toList.take (i * size)=A at c1 ⊢
   have t1:(A++v.cells.toList++cells.toList.drop (i * size+v.cells.toList.length)).take ((i+1) * size)=A++v.cells.toList:=by
    rw[List.take_append,List.take_of_length_le (by simp[c1,hv]; omega)]
    simp[c1,hv,e1]
   have t2:(A++v.cells.toList++cells.toList.drop (i * size+v.cells.toList.length)).drop ((i+1+parts.length) * size)=cells.toList.drop ((i+(parts.length+1)) * size):=by
    rw[List.drop_append,List.drop_of_length_le (by simp[c1,hv]; omega),List.drop_drop]
    simp only[List.nil_append,List.length_append,c1,hvl]
    congr 1
    omega
   rw[t1,t2]
   simp
theorem JkD(w:World)(out:Array Value)(el:TypeId)(j:Nat):(w.alloc (.cells out el)).cell? ⟨w.heap.size,j,none⟩=out[j]? := by
 have hn:=heap_alloc_new w (.cells out el)
 unfold World.cell?
 simp only[]
 rw[hn]
 rfl
theorem JkO(P:Program)(w:World)(el:TypeId)(out:Array Value):(newRow el out).run P w=.ok ⟨w.heap.size,0,none⟩ (w.alloc (.cells out el)):=by
 simp only[newRow,Sem.run_bind,run_newObj,Result.andThen_ok,Sem.run_pure]; rfl
theorem Jhr{P:Program}{w:World}{t el:TypeId}{len sz:Nat}{z:Value}{parts:Array (Nat×Value)}{out:Array Value}
  (hu:P.underlying t=some (.slice el)) (hs:(sizeOf el).run P w=.ok sz w) (hz:(zeroValue el).run P w=.ok z w) (hl:len * sz≤16777216)
  (hf:Instr.fill (fun i=>some (i * sz,sz)) ((Array.range (len * sz)).map (z.cells[· % z.cells.size]!)) parts.toList=some out) :
  (Instr.buildSlice t len parts).run P w=.ok (.slice (some ⟨w.heap.size,0,none⟩) len len) (w.alloc (.cells out el)):=by
 have hif:¬ (len * sz > 2 ^ 24):=by omega
 unfold Instr.buildSlice
 by_cases h0:len * sz=0
 ·rw[h0]at hf
  have hf':Instr.fill (fun i=>some (i * sz,sz)) ((Array.range 0).map ((#[]:Array Value)[· % (#[]:Array Value).size]!)) parts.toList=some out:=by
   have hr0:Array.range 0=#[]:=by simp
   rw[← hf,hr0,Array.map_empty,Array.map_empty]
  simp only[Sem.run_bind,run_underlying hu,Result.andThen_ok,hs,hif,if_false,h0,if_true,Sem.run_pure,hf',JkO,Nat.zero_le,show ¬ (0 > 2 ^ 24) by omega]
 ·simp only[Sem.run_bind,run_underlying hu,Result.andThen_ok,hs,hif,if_false,h0,hz,Sem.run_pure,hf,JkO]
theorem R1.cells{w:World}{S:Nat→Nat→Prop}:∀ {d:D} {v:Value},R1 w S d v→(AV.c (.d d)).rowOk=true→Rn w S d.cells v.cells.toList
 | .v x,v,h,k=>by
  have:=R1.vInv h; subst this
  rw[VB k]; exact .acons _ _ _ _ h .anil
 | .ag l,v,h,_=>by obtain⟨vs,rfl,h2⟩:=R1.agInv h; exact h2
 | .sl _ _,v,h,_=>by rw[VB (R1.slOne h)]; exact .acons _ _ _ _ h .anil
 | .ne b,v,h,k=>by
  have h':RD w S (.one (.ne b) v):=h
  cases h' with
  | ne0=>exact .acons _ _ _ _ h .anil
  | ne1 t p=>exact .acons _ _ _ _ h .anil
theorem AV.toD_rowOk{x:AV}(h:x.isD=true)(k:x.rowOk=true):(AV.c (.d x.toD)).rowOk=true:=by
 cases x with
 | ag l=>rfl
 | tu l=>cases h
 | df l=>cases h
 | c x=>cases x with
  | d y=>exact k
  | sl _ _ _=>rfl
  | fs _ _=>rfl
  | ex y d=>cases d <;> simp_all [AV.rowOk,D.one,AV.toD,C.toD]
  | _=>simp[AV.isD,C.isD]at h
def Jeu:Nat→List (Nat×Operand)→Bool
 | _,[]=>true
 | k,(i,_)::l=>i == k && Jeu (k+1) l
theorem Jjq:∀ {l:List (Nat×Operand)} {k:Nat},Jeu k l=true→∀ (i:Nat) (p:Nat×Operand),l[i]? = some p→p.1=k+i
 | [],_,_,i,p,h=>by simp at h
 | (j,x)::l,k,h,i,p,hi=>by
  simp only[Jeu,Bool.and_eq_true,beq_iff_eq]at h
  cases i with
  | zero=>simp at hi; subst hi; simp[h.1]
  | succ i=>have:=Jjq h.2 i p (by simpa using hi); omega
def JfH:List (Nat×Operand)→Bool
 | [(_,.const (.slice none 0 0))]=>true
 | _=>false
def Ja9(P:Program)(σ:Nat→AV)(h:Hp)(t:TypeId)(len:Nat)(parts:List (Nat×Operand)):AR :=
 ⟨JU P t=true∧tZok P (Ju P t)=true∧(tZ P (Ju P t)).length=Jo P (Ju P t)∧0<Jo P (Ju P t)∧Jeu 0 parts=true∧parts.length=len∧len * Jo P (Ju P t)≤16777216 ∧
  (parts.all fun p=>(evA σ p.2).isD && (evA σ p.2).rowOk && ((evA σ p.2).toD.cells.length == Jo P (Ju P t)))=true,
  if JfH parts=true∧JcG t=true then .c .nl else .c (.sl (Jo P (Ju P t)) (parts.map fun p=>sizeD (tCS P (Ju P t)) (evA σ p.2).toD) 0),h⟩
theorem Jow{Γ:Ctx}{σ:Nat→AV}{h:Hp}(o:Oper)(t:TypeId)(len:Nat)(parts:Array (Nat×Operand))(ho:o.op=.buildSlice t len parts)(hp:(Ja9 Γ.P σ h t len parts.toList).pre):
  VR Γ o σ h (Ja9 Γ.P σ h t len parts.toList).val (Ja9 Γ.P σ h t len parts.toList).h:=by
 obtain⟨p1,p2,p3,p4,p5,p6,p7,p8⟩:=hp
 intro a e hop hw K Q hk
 unfold JU at p1
 split at p1
 ·rename_i el hu
  simp only[Bool.and_eq_true]at p1
  have he:Ju Γ.P t=el:=by simp[Ju,hu]
  simp only[Ja9,he]at p2 p3 p4 p7 p8 hk ⊢
  have hs:=J6 Γ.P el e.w (by simp[JQ,p1])
  obtain⟨z,hz,hz2,_⟩:=XR p2 e.w
  generalize hsz:Jo Γ.P el=sz at *
  have hzl:z.cells.size=sz:=by rw[← p3,← hz2]; simp
  -- the values,in a row
  generalize tCS Γ.P el=ss at *
  have hall:∀ p∈parts.toList,R1 e.w e.S (sizeD ss (evA σ p.2).toD) (a.eval p.2)∧Rn e.w e.S (sizeD ss (evA σ p.2).toD).cells (a.eval p.2).cells.toList∧(sizeD ss (evA σ p.2).toD).cells.length=sz:=fun p hpm=>by
   have h1:=List.all_eq_true.1 p8 p hpm
   simp only[Bool.and_eq_true,beq_iff_eq]at h1
   have h2:=hop p.2 (by simp only[ho,Op.operands,List.mem_toArray,List.mem_map]; exact⟨p,hpm,rfl⟩)
   have h3:=(h2.toD h1.1.1).sizeD ss
   have h4:=AV.toD_rowOk h1.1.1 h1.1.2
   exact⟨h3,h3.cells (by
    revert h4
    cases (evA σ p.2).toD with
    | ag l=>intro _; rfl
    | tu l=>intro h; simp[AV.rowOk]at h
    | ne b=>exact id
    | v x=>exact id
    | sl n l=>intro _; unfold sizeD; simp only; unfold sizeD0; split <;> rfl),by rw[JqB]; exact h1.2⟩
  have hcells:∀ (l:List (Nat×Operand)),(∀ p∈l,p∈parts.toList)→Rn e.w e.S ((l.map fun p=>sizeD ss (evA σ p.2).toD).flatMap D.cells) ((l.map fun p=>(p.1,a.eval p.2)).flatMap (·.2.cells.toList)):=by
   intro l
   induction l with
   | nil=>intro _; exact .anil
   | cons p l ih =>
    intro hl
    simp only[List.map_cons,List.flatMap_cons]
    exact(hall p (hl p (by simp))).2.1.append (ih fun q hq=>hl q (by simp[hq]))
  have hR:=hcells parts.toList fun _ h=>h
  obtain⟨out,ho1,ho2⟩:=JkH sz (parts.toList.map fun p=>(p.1,a.eval p.2)) 0 ((Array.range (len * sz)).map (z.cells[· % z.cells.size]!)) (fun i p hi=>by
   rw[List.getElem?_map,Option.map_eq_some_iff]at hi
   obtain⟨q,hq,rfl⟩:=hi
   have:=Jjq p5 i q hq
   refine⟨by simpa using this,?_⟩
   have h3:=hall q (List.mem_of_getElem? hq)
   have h4:=h3.2.1.length
   simp at h4
   show(a.eval q.2).cells.size=sz
   omega) (by simp at p6 ⊢; rw[p6]; exact Nat.le_refl _)
  have hout:out.toList=(parts.toList.map fun p=>(p.1,a.eval p.2)).flatMap (·.2.cells.toList):=by
   rw[ho2]
   simp at p6
   simp[p6]
  have hg:=Grows.alloc e.w (.cells out el)
  obtain⟨w1,l1⟩:=hw.quiet hg
  have hfin:R1 (e.w.alloc (.cells out el)) e.S (.sl sz (parts.toList.map fun p=>sizeD ss (evA σ p.2).toD)) (.slice (some ⟨e.w.heap.size,0,none⟩) len len):=by
   have hlen:(parts.toList.map fun p=>sizeD ss (evA σ p.2).toD).length=len:=by simpa using p6
   have:=RD.sl (w:=e.w.alloc (.cells out el)) (S:=e.S) sz (parts.toList.map fun p=>sizeD ss (evA σ p.2).toD) _ e.w.heap.size 0 len (RD.mono l1.keep hR) (fun i x hx=>by
    rw[← hout]at hx
    refine⟨?_,fun hS=>by have:=hw.sdom _ _ hS; omega⟩
    rw[JkD]
    simpa using hx) (fun d hd=>by
    rw[List.mem_map]at hd
    obtain⟨p,hpm,rfl⟩:=hd
    exact(hall p hpm).2.2) (by omega)
   rwa [hlen]at this
  have hRA:RA { e with w:=e.w.alloc (.cells out el) } (if JfH parts.toList=true∧JcG t=true then .c .nl else .c (.sl sz (parts.toList.map fun p=>sizeD ss (evA σ p.2).toD) 0)) (.slice (some ⟨e.w.heap.size,0,none⟩) len len):=by
   by_cases hn:JfH parts.toList=true∧JcG t=true
   ·rw[if_pos hn]
    replace hn:=hn.1
    unfold JfH at hn
    split at hn
    ·rename_i k hpl
     rw[hpl]at p6 hout
     have hl1:len=1:=by simpa using p6.symm
     subst hl1
     refine⟨e.w.heap.size,rfl,?_,fun hS=>by have:=hw.sdom _ _ hS; omega⟩
     show(e.w.alloc (.cells out el)).cell? _=_
     rw[JkD,← Array.getElem?_toList,hout]
     rfl
    ·cases hn
   ·rw[if_neg hn]
    exact⟨hfin,.inl ⟨_,_,rfl⟩⟩
  refine KT (v:=.slice (some ⟨e.w.heap.size,0,none⟩) len len) (w':=e.w.alloc (.cells out el)) ?_ (hk _ _ w1 l1 hRA)
  have hmap:(parts.map fun(x:Nat×Operand)=>(x.1,a.eval x.2)).toList=parts.toList.map fun p=>(p.1,a.eval p.2):=by simp
  have hrun:=Jhr (parts:=parts.map fun(x:Nat×Operand)=>(x.1,a.eval x.2)) hu hs hz p7 (by rw[hmap]; exact ho1)
  simp only[execOp,ho]
  rw[Sem.run_bind,hrun]
  rfl
 ·simp at p1
end Go.Proofs.Ytaofbminodhcnaa
namespace Go.Proofs.Ytaofbminodhcnaa
open Go.RowKit
def Zc(P:Program)(t:TypeId):Nat:=((P.info? t).map (·.bytes)).getD 0
def tZ1(P:Program)(t:TypeId):Bool:=match (P.info? t).bind (·.zero) with | some (.int .u8 n)=>n == 0 | _=>false
def Hp.tok(h:Hp)(k:Nat)(el:TypeId):Hp:={ h with T:=upd (upd h.T k none) h.nx (some el),nx:=h.nx+1 }
theorem Jib{w:World}{B ty sz n:Nat}{v:Value}{xs:List Value}(h:w.ownsRow B ty sz v n xs):
  (v=.slice none 0 0)∨∃ g cap cur,v=.slice (some ⟨g,0,none⟩) n cap∧B≤g∧w.heap[g]? = some (.cells cur ty (0,0))∧n≤cap∧cap≤maxLen∧cur.size=cap * sz∧cur.toList.take (n * sz)=xs:=by
 rcases h.2 with⟨h1,_⟩ | h2
 ·exact .inl h1
 ·exact .inr h2
theorem WInv.tokFull{Γ:Ctx}{h:Hp}{e:Env}(hw:WInv Γ h e)(ty:TypeId){v:Value}(hv:Vw v):
  ∃ e',e'.w=e.w∧WInv Γ { h with T:=upd h.T h.nx (some ty),nx:=h.nx+1 } e'∧e.le e':=by
 obtain⟨w1,l1⟩:=hw.addTok (v:=v) (ty:=ty) (.inl hv) (fun h=>absurd hv h) (fun h=>absurd hv h)
 exact⟨{ e with τ:=upd e.τ h.nx (some v) },rfl,w1,l1⟩
theorem WInv.newArr{Γ:Ctx}{h:Hp}{e:Env}(hw:WInv Γ h e){el:TypeId}{sz cap:Nat}{l:List D}{vs zs:List Value}{cur:Array Value}
  (hsz:0<sz∧sz=Jo Γ.P el) (hr:Rn e.w e.S (l.flatMap D.cells) vs) (hd:∀ d∈l,d.cells.length=sz) (hcur:cur.toList=vs++zs) (hcs:cur.size=cap * sz) (hcap:l.length≤cap) (hmax:cap≤maxLen) :
  ∃ e',e'.w=e.w.drew.alloc (.cells cur el)∧WInv Γ { h with T:=upd h.T h.nx (some el),nx:=h.nx+1 } e'∧e.le e' ∧
   RC e' (.sl sz l h.nx) (.slice (some ⟨e.w.heap.size,0,none⟩) l.length cap):=by
 have hnx0:h.nx≠0:=by have:=hw.nx0; omega
 have hg:Grows e.w (e.w.drew.alloc (.cells cur el)):=(Grows.drew e.w).trans (Grows.alloc _ _)
 have hvl:vs.length=l.length * sz:=by rw[hr.length,Vt hd]
 obtain⟨w1,l1⟩:=hw.grows (S':=fun b o=>e.S b o∨(b=e.w.heap.size∧l.length * sz≤o)) hg (fun b o hb=>⟨fun h=>h.resolve_right (fun h=>by omega),.inl⟩) (fun b o hb=>by
  simp
  rcases hb with hb | hb
  ·have:=hw.sdom b o hb; omega
  ·omega)
 have hcell:∀ j,(e.w.drew.alloc (.cells cur el)).cell? ⟨e.w.heap.size,j,none⟩=cur[j]? := fun j=>JkD e.w.drew cur el j
 have hnew:(e.w.drew.alloc (.cells cur el)).heap[e.w.heap.size]? = some (.cells cur el (0,0)):=heap_alloc_new e.w.drew _
 have howns:JjE Γ (e.w.drew.alloc (.cells cur el)) el sz (.slice (some ⟨e.w.heap.size,0,none⟩) l.length cap) l.length vs :=
  ⟨⟨hvl,.inr ⟨e.w.heap.size,cap,cur,rfl,Nat.zero_le _,hnew,hcap,hmax,hcs,by rw[hcur,← hvl]; simp⟩⟩,fun b hb=>by simp[Value.ownBlock]at hb; subst hb; exact .inl hw.hB⟩
 obtain⟨w2,l2⟩:=w1.addTok (v:=.slice (some ⟨e.w.heap.size,0,none⟩) l.length cap) (ty:=el) (.inr ⟨sz,l.length,vs,hsz,howns,
  (fun b o hb ho _=>by simp[Value.ownBlock]at hb; exact .inr ⟨hb.symm,ho⟩),
  (fun b hb m hm hρ=>by
   simp[Value.ownBlock]at hb
   subst hb
   cases hH:h.H m with
   | none=>exact hm hH
   | some r =>
    simp only at hρ
    obtain⟨ob,q2,_⟩:=hw.boxAny hρ r hH
    have:=(Array.getElem?_eq_some_iff.1 q2).1
    omega)⟩)
  (fun _ k u b hk hu hb hfull hb'=>by
   simp[Value.ownBlock]at hb'
   cases hT:h.T k with
   | none=>exact hk hT
   | some ty =>
    obtain⟨_,v',q1,q2⟩:=hw.tok k ty hT
    simp only at hu
    rw[hu]at q1; simp at q1; subst q1
    obtain⟨sz',n,xs,_,q2,_⟩:=q2.resolve_left hfull
    have:=(q2.1.lt _ hb).2
    omega)
  (fun _ n m hn hm hb=>by
   simp[Value.ownBlock]at hb
   have:=(hw.ext.mu n m hn hm).lt
   omega)
 refine⟨_,rfl,w2,l1.trans l2,?_,?_⟩
 ·refine RD.sl sz l vs e.w.heap.size 0 cap (RD.mono (l1.trans l2).keep hr) (fun i x hx=>?_) hd hcap
  have hil:i<vs.length:=(List.getElem?_eq_some_iff.1 hx).1
  refine⟨?_,fun hS=>?_⟩
  ·show(e.w.drew.alloc (.cells cur el)).cell? _=_
   rw[Nat.zero_add,hcell,← Array.getElem?_toList,hcur,List.getElem?_append_left hil,hx]
  ·rcases hS with hS | ⟨_,hS⟩
   ·have:=hw.sdom _ _ hS; omega
   ·omega
 ·exact .inr ⟨hnx0,by simp⟩
def JbG(P:Program)(h:Hp)(t:TypeId)(n sz len szy:Nat)(ys:List D)(op:List C):Option (List C)→AR
 | some (.arr sz' l::cs)=>⟨JU P t=true∧tZok P (Ju P t)=true∧(tZ P (Ju P t)).length=Jo P (Ju P t)∧0<sz∧sz=Jo P (Ju P t)∧sz=sz'∧szy=sz∧len≤l.length+cs.length ∧
   cs.all C.isD=true∧(cs.map C.toD).all D.one=true∧(op=[]∨sz=1)∧(len+(ys.length+op.length)) * Zc P (Ju P t)≤140737488355328∧len+(ys.length+op.length)≤9223372036854775807 ∧
   (∀ y∈ys,y.cells.all D.one=true)∧op.all C.one=true,
   .c (.os h.nx sz 0 (len+(ys.length+op.length))),{ h with H:=upd (upd h.H n none) h.nx (some (.arr sz ((l++cs.map C.toD).take len++ys)::op)),nx:=h.nx+1 }⟩
 | _=>.bad h
def ysOf(h:Hp):AV→Option (Prop×Nat×List D)
 | .c (.os n sz off len)=>match h.H n with
  | some [.arr sz' l]=>some (sz'=sz∧off+len≤l.length,sz,(l.drop off).take len)
  | _=>none
 | .c .nl=>some (True,1,[.sl 11 []])
 | a=>match slD a with
  | some (sz,l)=>some (True,sz,l)
  | none=>none
def Z5(P:Program)(h:Hp)(t:TypeId)(n sz len:Nat)(ys:List UInt8):Option (List C)→AR
 | some [.bar l]=>⟨JU P t=true∧Ju P t=UTY∧P.underlying (Ju P t)=some (.int .u8)∧Zc P (Ju P t)=1∧Jo P (Ju P t)=1∧tZ1 P (Ju P t)=true∧sz=1∧len=l.length∧l.length+ys.length≤140737488355328,
   .c (.os h.nx 1 0 (l.length+ys.length)),{ h with H:=upd (upd h.H n none) h.nx (some [.bar (l++ys)]),nx:=h.nx+1 }⟩
 | _=>.bad h
def Jk0:Option (List C)→Bool
 | some [.bar _]=>true
 | _=>false
def JhL:AV→Option (Prop×UInt8)
 | .c (.sl 1 [.v (.int .u8 n)] _)=>some (n=((UInt8.ofNat n.toNat).toNat:Int),UInt8.ofNat n.toNat)
 | _=>none
def Jc3(P:Program)(h:Hp)(t:TypeId)(sz:Nat)(l:List D):Option (Prop×Nat×List D)→AR
 | some (p,szy,ys)=>⟨JU P t=true∧tZok P (Ju P t)=true∧(tZ P (Ju P t)).length=Jo P (Ju P t)∧0<Jo P (Ju P t)∧(l=[]∨sz=Jo P (Ju P t))∧(ys=[]∨szy=Jo P (Ju P t))∧p ∧
   (l.length+ys.length) * Zc P (Ju P t)≤140737488355328∧l.length+ys.length≤9223372036854775807∧(∀ y∈ys,y.cells.all D.one=true)∧(l=[]∨0<ys.length),
   .c (.os h.nx (Jo P (Ju P t)) 0 (l.length+ys.length)),{ h with H:=upd h.H h.nx (some [.arr (Jo P (Ju P t)) (l++ys)]),nx:=h.nx+1 }⟩
 | none=>.bad h
def Jcq(P:Program)(h:Hp)(t:TypeId)(sz:Nat)(l:List D)(k:Nat):Option (Prop×Nat×List D)→AR
 | some (p,szy,ys)=>⟨JU P t=true∧tZok P (Ju P t)=true∧(tZ P (Ju P t)).length=Jo P (Ju P t)∧0<Jo P (Ju P t)∧(l=[]∨sz=Jo P (Ju P t))∧(ys=[]∨szy=Jo P (Ju P t)) ∧
   (k=0∨h.T k=some (Ju P t))∧(l.length+ys.length) * Zc P (Ju P t)≤140737488355328∧l.length+ys.length≤9223372036854775807∧(∀ y∈ys,y.cells.all D.one=true)∧p,
   .c (.sl (Jo P (Ju P t)) (l++ys) h.nx),h.tok k (Ju P t)⟩
 | none=>.bad h
def JgG(P:Program)(h:Hp)(t:TypeId)(n sz len:Nat)(x:AV):AR :=
 match x with
 | .c .nl=>JbG P h t n sz len 1 [] [.sl 0 [] 0] (h.H n)
 | x=>if Jk0 (h.H n)=true then(match JhL x with | some (p,c)=>let r:=Z5 P h t n sz len [c] (h.H n); ⟨p∧r.pre,r.val,r.h⟩ | none=>.bad h)
  else match ysOf h x with
   | some (p,szy,ys)=>let r:=JbG P h t n sz len szy ys [] (h.H n); ⟨p∧r.pre,r.val,r.h⟩
   | none=>.bad h
def Jc9(P:Program)(σ:Nat→AV)(h:Hp)(t:TypeId)(s x:Operand):AR :=
 match evA σ s with
 | .c (.sl sz l k)=>if JfF t=true∧k=0 then Jc3 P h t sz l (ysOf h (evA σ x)) else Jcq P h t sz l k (ysOf h (evA σ x))
 | .c (.fs sz l)=>if JcG t=true then Jc3 P h t sz l (ysOf h (evA σ x)) else .bad h
 | .c (.os n sz 0 len)=>if JcG t=true then JgG P h t n sz len (evA σ x) else .bad h
 | _=>.bad h
theorem Rn.one{w:World}{S:Nat→Nat→Prop}:∀ {l:List D} {vs:List Value},Rn w S l vs→l.all D.one=true→∀ v∈vs,v.oneCell'=true
 | [],_,h,_,v,hv=>by cases h; simp at hv
 | d::l,_,h,k,v,hv=>by
  cases h with
  | acons _ x _ vs h1 h2 =>
   simp only[List.all_cons,Bool.and_eq_true]at k
   simp only[List.mem_cons]at hv
   rcases hv with rfl | hv
   ·cases d with
    | v y=>have:=R1.vInv h1; subst this; exact k.1
    | sl _ _=>exact R1.slOne h1
    | _=>simp[D.one]at k
   ·exact Rn.one h2 k.2 v hv
theorem JpK{l:List D}(h:∀ y∈l,y.cells.all D.one=true):(l.flatMap D.cells).all D.one=true:=by
 rw[List.all_eq_true]
 intro d hd
 rw[List.mem_flatMap]at hd
 obtain⟨y,hy,hdy⟩:=hd
 exact List.all_eq_true.1 (h y hy) d hdy
theorem WInv.newArrBox{Γ:Ctx}{h:Hp}{e:Env}(hw:WInv Γ h e){el:TypeId}{sz cap:Nat}{l:List D}{op:List C}{us ts zs:List Value}{cur:Array Value}
  (hcur:cur.toList=us++ts++zs) (hr:Rn e.w e.S (l.flatMap D.cells) us) (hd:∀ d∈l,d.cells.length=sz) (ho:RCs e op ts) (ho1:op=[]∨sz=1) (hsz:0<sz) (hcs:cur.size=cap * sz) (hmax:cap≤maxLen) (hkc:∀ c∈op,c.noK=true) :
  ∃ e',e'.w=e.w.drew.alloc (.cells cur el)∧WInv Γ { h with H:=upd h.H h.nx (some (.arr sz l::op)),nx:=h.nx+1 } e'∧e.le e'∧e'.ρ h.nx=some e.w.heap.size∧e'.τ h.nx=some (.slice none cap cap):=by
 have hg:Grows e.w (e.w.drew.alloc (.cells cur el)):=(Grows.drew e.w).trans (Grows.alloc _ _)
 obtain⟨w1,l1⟩:=hw.grows (S':=fun b o=>e.S b o∨b=e.w.heap.size) hg (fun b o hb=>⟨fun h=>h.resolve_right (by omega),.inl⟩) (fun b o hb=>by
  simp
  rcases hb with hb | hb
  ·have:=hw.sdom b o hb; omega
  ·omega)
 have hnew:(e.w.drew.alloc (.cells cur el)).heap[e.w.heap.size]? = some (.cells cur el (0,0)):=heap_alloc_new e.w.drew _
 obtain⟨f1,f2,f3,f4,f5⟩:=w1.fresh h.nx (Nat.le_refl _)
 have hle:=(Env.le_name (b:=e.w.heap.size) f3).trans (Env.le_tok (v:=.slice none cap cap) (e:={ ({ e with w:=e.w.drew.alloc (.cells cur el),S:=fun b o=>e.S b o∨b=e.w.heap.size }:Env) with ρ:=upd e.ρ h.nx (some e.w.heap.size) }) f4)
 have hle2:=l1.trans hle
 obtain⟨w2,l2⟩:=w1.addArr (b:=e.w.heap.size) (ob:=.cells cur el) (row:=.arr sz l::op) (u:=.slice none cap cap) hnew
  (RO.arr ⟨us,ts,zs,cap,hcur,RD.mono hle2.keep hr,hd,RCs.mono hle2 ho,ho1,hsz,by simpa using hcs,hmax,by simp⟩) (fun o _=>.inr rfl) (.inl hw.hB)
  (fun n hn hb=>by
   cases hH:h.H n with
   | none=>exact hn hH
   | some r =>
    simp only at hb
    obtain⟨ob,q2,_⟩:=hw.boxAny hb r hH
    have:=(Array.getElem?_eq_some_iff.1 q2).1
    omega)
  (fun k v hk hv hfull hb=>by
   cases hT:h.T k with
   | none=>exact absurd hT hk
   | some ty =>
    obtain⟨_,v',q1,q2⟩:=hw.tok k ty hT
    simp only at hv
    rw[hv]at q1; simp at q1; subst q1
    obtain⟨sz,n,xs,_,q2,_⟩:=q2.resolve_left hfull
    have:=(q2.1.lt _ hb).2
    omega)
  (fun n hn hm=>by have:=(hw.ext.mu n _ hn hm).lt; omega)
  (fun c hc=>by
   rcases List.mem_cons.1 hc with rfl | hc
   ·rfl
   ·exact hkc c hc)
 exact⟨_,rfl,w2,l1.trans l2,by simp,by simp⟩
theorem JeX{P:Program}{w:World}{t ty el:TypeId}{base:Option Addr}{n cap:Nat}{xv:Value}{sz:Nat}(hu:P.underlying t=some (.slice el))(hs:(sizeOf el).run P w=.ok sz w)
  (hn:n≤cap) (hx:xv=.slice none 0 0∨∃ a c,xv=.slice (some a) 0 c):(Builtin.append_ #[t,t] ty #[.slice base n cap,xv]).run P w=.ok (.slice base n cap) w:=by
 rcases hx with rfl | ⟨a,c,rfl⟩ <;> cases base <;>
  simp[Builtin.append_,run_underlying hu,hs,Builtin.lenOf,hn,Builtin.firstCells,loadCells,loadCellsFrom,storeCells]
theorem R1.resize{w:World}{S:Nat→Nat→Prop}{sz sz':Nat}{l:List D}{v:Value}(h:R1 w S (.sl sz l) v)(hl:l=[]∨sz=sz'):R1 w S (.sl sz' l) v:=by
 rcases hl with rfl | rfl
 ·rcases h.slInv with⟨_,_,rfl⟩|⟨vs,b,o,cap,rfl,_⟩
  ·exact .slnil _ _
  ·exact RD.sl _ [] [] b o cap .anil (by simp) (by simp) (by simp)
 ·exact h
theorem WInv.inPlace{Γ:Ctx}{h:Hp}{e:Env}(hw:WInv Γ h e){k:Nat}{el:TypeId}{g n cap:Nat}{cur:Array Value}{xs news:List Value}{sz m:Nat}
  (hk:h.T k=some el) (hτ:e.τ k=some (.slice (some ⟨g,0,none⟩) n cap)) (hnf:n<cap) (hsz:0<sz∧sz=Jo Γ.P el)
  (hg:e.w.heap[g]? = some (.cells cur el (0,0))) (hB:Γ.B≤g∨Γ.M g) (hcs:cur.size=cap * sz) (hmax:cap≤maxLen) (hm:news.length=m * sz) (hroom:n+m≤cap) (hxs:cur.toList.take (n * sz)=xs) :
  ∃ e',e'.w=e.w.setRow g (cur.toList.take (n * sz)++news++cur.toList.drop (n * sz+news.length)).toArray∧WInv Γ (h.tok k el) e'∧e.le e' ∧
   e'.τ h.nx=some (.slice (some ⟨g,0,none⟩) (n+m) cap)∧(∀ i x,(xs++news)[i]? = some x→(∀ j,j<n * sz→¬ e.S g j)→e'.w.cell? ⟨g,i,none⟩=some x∧¬ e'.S g i):=by
 obtain⟨hk0,v,q1,qor⟩:=hw.tok k el hk
 rw[hτ]at q1
 simp at q1
 subst q1
 have hnfull:¬ Vw (.slice (some ⟨g,0,none⟩) n cap):=by
  rintro ⟨a,m',hh⟩
  simp at hh; omega
 obtain⟨sz',n',xs',q2,q3,q4,q5⟩:=qor.resolve_left hnfull
 have hsz':sz'=sz:=by rw[q2.2,hsz.2]
 subst hsz'
 have hn':n'=n:=by
  rcases Jib q3.1 with hh | ⟨g',cap',cur',hh,_⟩
  ·cases hh
  ·simp at hh; omega
 subst hn'
 generalize hcur':(cur.toList.take (n' * sz')++news++cur.toList.drop (n' * sz'+news.length)).toArray=cur'
 have hlen:n' * sz'+news.length≤cur.size:=by rw[hm,hcs,← Nat.add_mul]; exact Nat.mul_le_mul_right _ hroom
 have hsize:cur'.size=cur.size:=by rw[← hcur']; simp; omega
 have hspare:∀ o x,e.w.cell? ⟨g,o,none⟩=some x→¬ e.S g o→o<n' * sz':=fun o x hx hs=>by
  rcases Nat.lt_or_ge o (n' * sz') with h' | h'
  ·exact h'
  ·exact absurd (q4 g o rfl h' (by rw[hx]; rfl)) hs
 have hw1:=hw.dropTok k
 have hle:e.le { e with w:=e.w.setRow g cur',S:=fun c o=>e.S c o∧¬ (c=g∧n' * sz'≤o∧o<(n'+m) * sz') }:=⟨⟨fun c o x hc hs=>by
  refine⟨?_,fun h'=>hs h'.1⟩
  by_cases hcg:c=g
  ·subst hcg
   have ho:=hspare o x hc hs
   show(e.w.setRow c cur').cell? _=_
   rw[cell_setRow_same _ _ _ _ _ _ _ hg,← hcur']
   have hx:cur[o]? = some x:=by simpa [World.cell?,hg] using hc
   have:(cur.toList.take (n' * sz'))[o]? = some x:=by rw[List.getElem?_take,if_pos ho]; simpa using hx
   have hl:o<(cur.toList.take (n' * sz')).length:=(List.getElem?_eq_some_iff.1 this).1
   simp only[List.getElem?_toArray]
   rw[List.append_assoc,List.getElem?_append_left hl,this]
  ·exact(World.cell?_of_block (setRow_other _ _ _ _ hcg)).trans hc,fun c es k hc hs=>by
  have hcg:c≠g:=fun he=>by subst he; rw[hg]at hc; cases hc
  exact⟨(setRow_other _ _ _ _ hcg).trans hc,fun h'=>hs h'.1⟩⟩,fun _ _ h=>h,fun _ _ h=>h⟩
 have hbox:∀ m',h.H m'≠none→e.ρ m'≠some g:=q5 g rfl
 have w2:WInv Γ { h with T:=upd h.T k none } { e with w:=e.w.setRow g cur',S:=fun c o=>e.S c o∧¬ (c=g∧n' * sz'≤o∧o<(n'+m) * sz') }:=by
  constructor
  ·exact hw.g0
  ·exact hw.os
  ·exact hw.tape
  ·exact hw.output
  ·simpa using hw.grown
  ·simpa using hw.hB
  ·intro b hb hmm
   exact(setRow_other _ _ _ _ (fun he=>by subst he; exact hB.elim (fun h=>by omega) hmm)).trans (hw.old b hb hmm)
  ·intro b o hb; simpa using hw.sdom b o hb.1
  ·intro b o h0 hmm
   have:=hw.s0B b o h0
   exact⟨hw.s0 b o h0 hmm,fun h'=>by obtain⟨rfl,_⟩:=h'; exact hB.elim (fun h=>by omega) hmm⟩
  ·exact hw.s0B
  ·exact hw.keep.trans hle.keep
  ·intro i row hi
   rcases hw.box i row hi with hz | ⟨b,ob,h1,h2,h3,h4,h5⟩
   ·exact .inl hz
   have hne:b≠g:=fun he=>by subst he; exact hbox i (by simp at hi; simp[hi]) h1
   exact .inr ⟨b,ob,h1,(setRow_other _ _ _ _ hne).trans h2,RO.mono hle h3,fun o ho=>⟨h4 o ho,fun h'=>hne h'.1⟩,h5⟩
  ·exact hw.inj
  ·intro i ty hi
   obtain⟨h0,u,r1,ror⟩:=hw1.tok i ty hi
   refine⟨h0,u,r1,?_⟩
   by_cases hfu:Vw u
   ·exact .inl hfu
   obtain⟨s2,n2,x2,r2,r3,r4,r5⟩:=ror.resolve_left hfu
   have hne:∀ c,u.ownBlock=some c→c≠g:=fun c hc he=>by
    subst he
    have hik:i≠k:=fun he=>by subst he; simp at hi
    have hTi:h.T i≠none:=by simp only[upd,hik,if_false]at hi; rw[hi]; simp
    exact hik (hw.tokinj i k u _ c hTi (by rw[hk]; simp) r1 hτ hc rfl hfu hnfull)
   refine .inr ⟨s2,n2,x2,r2,⟨Jaj r3.1 (fun c hc=>setRow_other _ _ _ _ (hne c hc)),r3.2⟩,fun c o hc ho hs=>?_,r5⟩
   have hce:(e.w.setRow g cur').cell? ⟨c,o,none⟩=e.w.cell? ⟨c,o,none⟩:=World.cell?_of_block (setRow_other _ _ _ _ (hne c hc))
   exact⟨r4 c o hc ho (by rw[← hce]; exact hs),fun h'=>hne c hc h'.1⟩
  ·exact hw1.tokinj
  ·exact hw1.fresh
  ·exact hw1.nx0
  ·exact hw1.rt
  ·have hne:∀ n m,h.H n≠none→e.μ n m→m≠g:=fun n m h1 h2 he=>(hw.ext.mu n m h1 h2).tok k _ (by rw[hk]; simp) hτ hnfull (by rw[he]; rfl)
   refine hw.ext.of (fun _ k=>k) (by simp) (fun n m h1 h2=>⟨h1,h2⟩) (fun n m h1 q h2=>⟨setRow_other _ _ _ _ (hne n m h1 h2),fun o ho=>⟨ho,fun h'=>hne n m h1 h2 h'.1⟩⟩)
    (fun n m i h1 q h2 hi=>q.box i hi) (fun n m i v h1 q h2 hi=>q.tok i v (fun h0=>hi (by simp[upd,h0])))
    (fun n row j Φ hn hj=>⟨row,hn,hj,fun b cs ty v q1 q2 q3=>⟨cs,ty,q1,(setRow_other _ _ _ _ (fun he=>hbox n (by simp only at hn; rw[hn]; simp) (by subst he; exact q1))).trans q2,q3⟩,fun m k=>k⟩)
 have hrow:=setRow_heap e.w g cur cur' el (0,0) hg
 have howns:JjE Γ (e.w.setRow g cur') el sz' (.slice (some ⟨g,0,none⟩) (n'+m) cap) (n'+m) (cur'.toList.take ((n'+m) * sz')):=by
  refine⟨⟨?_,.inr ⟨g,cap,cur',rfl,Nat.zero_le _,hrow,hroom,hmax,by rw[hsize]; exact hcs,rfl⟩⟩,fun b hb=>by simp[Value.ownBlock]at hb; subst hb; exact hB⟩
  simp[hsize,hcs,Nat.min_eq_left hroom]
  try exact Nat.mul_le_mul_right _ hroom
 obtain⟨w3,l3⟩:=w2.addTok (v:=.slice (some ⟨g,0,none⟩) (n'+m) cap) (ty:=el) (.inr ⟨_,_,_,hsz,howns,
  (fun b o hb ho hc=>by
   simp[Value.ownBlock]at hb
   subst hb
   refine⟨q4 g o rfl (Nat.le_trans (Nat.mul_le_mul_right _ (by omega)) ho) ?_,fun h'=>by omega⟩
   have hc':((e.w.setRow g cur').cell? ⟨g,o,none⟩).isSome:=hc
   rw[cell_setRow_same _ _ _ _ _ _ _ hg]at hc'
   rw[Option.isSome_iff_exists]at hc' ⊢
   obtain⟨y,hy⟩:=hc'
   have:o<cur'.size:=(Array.getElem?_eq_some_iff.1 hy).1
   exact⟨cur[o],by simp[World.cell?,hg]⟩),
  (fun b hb i hi=>by simp[Value.ownBlock]at hb; subst hb; exact hbox i hi)⟩)
  (fun _ i u b hi hu hb hfu hb'=>by
   simp[Value.ownBlock]at hb'
   subst hb'
   have hik:i≠k:=fun he=>by subst he; simp at hi
   have hTi:h.T i≠none:=by simpa [upd,hik] using hi
   exact hik (hw.tokinj i k u _ g hTi (by rw[hk]; simp) hu hτ hb rfl hfu hnfull))
  (fun _ n m hn hm hb=>(hw.ext.mu n m hn hm).tok k _ (by rw[hk]; simp) hτ hnfull hb)
 refine⟨_,?_,w3,hle.trans l3,by simp,fun i x hx hS=>?_⟩
 ·rfl
 ·have hxl:xs.length=n' * sz':=by rw[← hxs]; simp; omega
  have hi:i<(n'+m) * sz':=by
   have:=(List.getElem?_eq_some_iff.1 hx).1
   simp[hxl,hm]at this
   rw[Nat.add_mul]; exact this
  refine⟨?_,fun h'=>?_⟩
  ·show(e.w.setRow g cur').cell? _=_
   rw[cell_setRow_same _ _ _ _ _ _ _ hg,← hcur',hxs]
   simp only[List.getElem?_toArray]
   have hl:i<(xs++news).length:=(List.getElem?_eq_some_iff.1 hx).1
   rw[List.getElem?_append_left hl,hx]
  ·rcases Nat.lt_or_ge i (n' * sz') with h2 | h2
   ·exact hS i h2 h'.1
   ·exact h'.2 ⟨rfl,h2,hi⟩
theorem JfR{P:Program}{w:World}(t ty e e':TypeId)(i:TypeInfo)(ht:P.underlying t=some (.slice e))(hi:P.info? e=some i)
  (g sLen sCap:Nat) (cur:Array Value) (hg:w.heap[g]? = some (.cells cur e' (0,0)))
  (a:Addr) (m c:Nat) (news:List Value) (hl:news.length=m * i.size) (hnews:∀ j u,news[j]? = some u→w.cell? (a.add j)=some u) (h1:∀ u∈news,u.oneCell'=true)
  (hroom:sLen+m≤sCap) (hfit:sLen * i.size+news.length≤cur.size) :
  (Builtin.append_ #[t,t] ty #[.slice (some ⟨g,0,none⟩) sLen sCap,.slice (some a) m c]).run P w =
   .ok (.slice (some ⟨g,0,none⟩) (sLen+m) sCap) (w.setRow g (cur.toList.take (sLen * i.size)++news++cur.toList.drop (sLen * i.size+news.length)).toArray):=by
 have hf:=run_firstCells_some (P:=P) w i.size m a m c news hl hnews
 have hst:=run_storeCells_at P g (sLen * i.size) e' news 0 cur w hg (by simpa using hfit) h1
 simp only[Nat.add_zero]at hst
 simp[Builtin.append_,run_underlying ht,sizeOf,typeInfo,hi,Builtin.lenOf,hroom,hf,Addr.add_lit,hst]
theorem Jw8{Γ:Ctx}{h:Hp}{e:Env}(hw:WInv Γ h e){t ty el:TypeId}{i:TypeInfo}{z sv:Value}{n sz len m bx ox cx:Nat}{l ys:List D}{cs op:List C}{v1 v2:List Value}
  (hu:Γ.P.underlying t=some (.slice el)) (hi:Γ.P.info? el=some i) (hz:i.zero=some z) (hzl:z.cells.size=i.size) (hrow:h.H n=some (.arr sz l::cs)) (hcs0:cs=[]) (hsz:i.size=sz) (h0:0<sz)
  (hlen:len=l.length+cs.length) (hD:cs.all C.isD=true) (h1D:(cs.map C.toD).all D.one=true) (h1:RC e (.os n sz 0 len) sv)
  (hr1:Rn e.w e.S (ys.flatMap D.cells) v1) (hd1:∀ d∈ys,d.cells.length=sz) (hr2:RCs e op v2) (hop:op=[]∨sz=1) (hm:(v1++v2).length=m * i.size)
  (hnews:∀ j v,(v1++v2)[j]? = some v→e.w.cell? ((⟨bx,ox,none⟩:Addr).add j)=some v) (hpos:0<m) (hfit:(len+m) * i.bytes≤140737488355328) (hmx:len+m≤9223372036854775807)
  (hone:∀ v∈v1++v2,v.oneCell'=true) (hopk:∀ c∈op,c.noK=true) :
  ∃ r e',(Builtin.append_ #[t,t] ty #[sv,.slice (some ⟨bx,ox,none⟩) m cx]).run Γ.P e.w=.ok r e'.w ∧
   WInv Γ { h with H:=upd (upd h.H n none) h.nx (some (.arr sz (l++cs.map C.toD++ys)::op)),nx:=h.nx+1 } e'∧e.le e'∧RC e' (.os h.nx sz 0 (len+m)) r:=by
 have hflat:∀ {q:List D},q.all D.one=true→q.flatMap D.cells=q:=fun {q} hq=>by
  induction q with
  | nil=>rfl
  | cons d q ih =>
   simp only[List.all_cons,Bool.and_eq_true]at hq
   rw[List.flatMap_cons,ih hq.2]
   cases d <;> first | rfl | (cases hq.1)
 have grown:∀ (olds:List Value) (old:Nat),Rn e.w e.S ((l++cs.map C.toD).flatMap D.cells) olds→(∀ d∈l++cs.map C.toD,d.cells.length=sz) →
   (Builtin.append_ #[t,t] ty #[sv,.slice (some ⟨bx,ox,none⟩) m cx]).run Γ.P e.w=.ok (.slice (some ⟨e.w.heap.size,0,none⟩) (len+m) (grownCap e.w (len+m) old el))
    (e.w.drew.alloc (.cells (olds.toArray++(v1++v2).toArray++Builtin.zeroCells z.cells (grownCap e.w (len+m) old el-(len+m))) el)) →
   ∃ r e',(Builtin.append_ #[t,t] ty #[sv,.slice (some ⟨bx,ox,none⟩) m cx]).run Γ.P e.w=.ok r e'.w ∧
    WInv Γ { h with H:=upd (upd h.H n none) h.nx (some (.arr sz (l++cs.map C.toD++ys)::op)),nx:=h.nx+1 } e'∧e.le e'∧RC e' (.os h.nx sz 0 (len+m)) r:=by
  intro olds old hR hd hrun
  have hge:=grownCap_ge e.w (len+m) old el
  have hmxl:=grownCap_le_maxLen e.w (len+m) old el (by unfold maxLen; omega)
  have hol:olds.length=len * sz:=by rw[hR.length,Vt hd,List.length_append,List.length_map,hlen]
  obtain⟨e',g1,g2,g3,g4,g5⟩:=(hw.dropBox n).newArrBox (el:=el) (sz:=sz) (cap:=grownCap e.w (len+m) old el) (l:=l++cs.map C.toD++ys) (op:=op) (us:=olds++v1) (ts:=v2)
   (zs:=(Builtin.zeroCells z.cells (grownCap e.w (len+m) old el-(len+m))).toList)
   (cur:=olds.toArray++(v1++v2).toArray++Builtin.zeroCells z.cells (grownCap e.w (len+m) old el-(len+m)))
   (by simp) (by rw[List.flatMap_append]; exact hR.append hr1) (fun d hd'=>by
    rcases List.mem_append.1 hd' with hd' | hd'
    ·exact hd d hd'
    ·exact hd1 d hd') hr2 hop h0 (by
    simp only[Array.size_append,List.size_toArray,size_zeroCells,hzl,hol,hm,hsz,← Nat.add_mul]
    congr 1; omega) hmxl hopk
  refine⟨.slice (some ⟨e.w.heap.size,0,none⟩) (len+m) (grownCap e.w (len+m) old el),e',?_,g2,g3,.inr ⟨_,_,g4,g5,by simp,by simpa using hge⟩⟩
  rw[g1]; exact hrun
 have hfit':(len+m) * i.bytes≤140737488355328:=hfit
 rcases h1 with⟨hl0,o,hv⟩|⟨b,cap,k1,k2,hv,k4⟩
 ·have e1:l=[]:=List.length_eq_zero_iff.1 (by omega)
  have e2:cs=[]:=List.length_eq_zero_iff.1 (by omega)
  subst e1; subst e2; subst hl0
  refine grown [] 0 .anil (fun d hd=>by simp at hd) ?_
  rw[hv]
  simp only[Nat.zero_add]at hfit ⊢
  cases o with
  | none =>
   have:=run_append_nil (P:=Γ.P) (w:=e.w) t ty el i z hu hi hz ⟨bx,ox,none⟩ m cx (v1++v2) hm hnews hpos (by omega) (by omega)
   simpa using this
  | some a' =>
   have:=run_append_grow (P:=Γ.P) (w:=e.w) t ty el i z hu hi hz a' 0 0 [] (by simp) (by simp) ⟨bx,ox,none⟩ m cx (v1++v2) hm hnews (by omega) (by omega) (growslice_fits (by omega) (by simpa using hfit))
   simpa using this
 ·simp only[Nat.zero_mul,Nat.sub_zero,Nat.zero_add]at hv k4
  obtain⟨b',cur,ty',h4,h5,h6,h7,h8⟩:=hw.boxAt k1 _ hrow rfl
  rw[k1]at h4; simp at h4; subst h4
  obtain⟨us,ts,zs,cap',j1,j2,j3,j4,j5,j6,j7,j8,j9⟩:=h6
  rw[k2]at j9; simp at j9; subst j9
  have hul:us.length=l.length * sz:=by rw[j2.length,Vt j3]
  have htl:ts.length=cs.length:=j4.length
  have hRt:Rn e.w e.S ((cs.map C.toD).flatMap D.cells) ts:=by rw[hflat h1D]; exact RCs.toD hD j4
  have hdt:∀ d∈cs.map C.toD,d.cells.length=sz:=fun d hd=>by
   rcases j5 with j5 | j5
   ·subst j5; simp at hd
   ·have:=List.all_eq_true.1 h1D d hd
    rw[j5]
    cases d <;> first | rfl | (cases this)
  have hct:cs.length=cs.length * sz:=by
   rcases j5 with j5 | j5
   ·subst j5; simp
   ·rw[j5,Nat.mul_one]
  have hol:(us++ts).length=len * i.size:=by rw[List.length_append,hul,htl,hsz,hlen,Nat.add_mul]; omega
  have hR:Rn e.w e.S ((l++cs.map C.toD).flatMap D.cells) (us++ts):=by rw[List.flatMap_append]; exact j2.append hRt
  have hd:∀ d∈l++cs.map C.toD,d.cells.length=sz:=fun d hd'=>by
   rcases List.mem_append.1 hd' with hd' | hd'
   ·exact j3 d hd'
   ·exact hdt d hd'
  have hcells:∀ j v,(us++ts)[j]? = some v→e.w.cell? ((⟨b,0,none⟩:Addr).add j)=some v:=fun j v hj=>by
   have hlt:j<(us++ts).length:=(List.getElem?_eq_some_iff.1 hj).1
   have h9:cur.toList[j]? = some v:=by rw[j1,List.getElem?_append_left hlt]; exact hj
   have h9:e.w.cell? ⟨b,0+j,none⟩=some v:=by simp only[World.cell?,h5,Nat.zero_add]; simpa using h9
   simp only[Addr.add]
   split
   ·rename_i h0; simpa [h0] using h9
   ·exact h9
  by_cases hroom:len+m≤cap
  ·have hnl:len * i.size+(v1++v2).length≤cur.size:=by
    rw[hm,← Array.length_toList,j7,hsz,← Nat.add_mul]; exact Nat.mul_le_mul_right _ hroom
   have hrun:=JfR (P:=Γ.P) (w:=e.w) t ty el ty' i hu hi b len cap cur h5 ⟨bx,ox,none⟩ m cx (v1++v2) hm hnews hone hroom hnl
   have ht:cur.toList.take (len * i.size)=us++ts:=by rw[j1,← hol,List.take_append,List.take_of_length_le (Nat.le_refl _),Nat.sub_self,List.take_zero,List.append_nil]
   have hdr:cur.toList.drop (len * i.size+(v1++v2).length)=zs.drop (v1++v2).length:=by rw[j1,← hol,List.drop_append,List.drop_of_length_le (by omega),List.nil_append]; congr 1; omega
   rw[ht,hdr]at hrun
   have hzl':(us++ts).length+zs.length=cur.size:=by rw[← Array.length_toList,j1]; simp only[List.length_append]
   have hXl:((us++ts)++(v1++v2)++zs.drop (v1++v2).length).length=cur.size:=by
    rw[List.length_append,List.length_append,List.length_drop]; omega
   obtain⟨w2,l2⟩:=hw.setBox (vs:=(us++ts)++(v1++v2)++zs.drop (v1++v2).length) (row':=.arr sz (l++cs.map C.toD++ys)::op) hrow k1 h5
    ⟨us++ts++v1,v2,zs.drop (v1++v2).length,cap,by simp only[List.append_assoc],by rw[List.flatMap_append]; exact hR.append hr1,fun d hd'=>by
     rcases List.mem_append.1 hd' with hd' | hd'
     ·exact hd d hd'
     ·exact hd1 d hd',hr2,hop,j6,by rw[hXl,← Array.length_toList]; exact j7,j8,k2⟩ hXl rfl (fun hq=>by cases hq) (fun j Φ hj=>(Jcr (l:=C.arr sz (l++cs.map C.toD++ys)::op) (fun c hc=>by
     rcases List.mem_cons.1 hc with rfl | hc
     ·rfl
     ·exact hopk c hc) hj).elim)
   have hnew:=setRow_heap e.w b cur ((us++ts)++(v1++v2)++zs.drop (v1++v2).length).toArray ty' (0,0) h5
   have hbn:=w2.boxAt (n:=n) (b:=b) k1 (.arr sz (l++cs.map C.toD++ys)::op) (by simp) rfl
   obtain⟨b2,c2,t2,m1,m2,m3,m4,m5⟩:=hbn
   simp only at m1
   rw[k1]at m1; simp at m1; subst m1
   have w3:=w2.dropBox n
   obtain⟨f1,f2,f3,f4,f5⟩:=hw.fresh h.nx (Nat.le_refl _)
   have hle:=(Env.le_name (b:=b) (e:={ e with w:=e.w.setRow b ((us++ts)++(v1++v2)++zs.drop (v1++v2).length).toArray }) (n:=h.nx) f3).trans (Env.le_tok (v:=.slice none cap cap) (e:={ ({ e with w:=e.w.setRow b ((us++ts)++(v1++v2)++zs.drop (v1++v2).length).toArray }:Env) with ρ:=upd e.ρ h.nx (some b) }) (n:=h.nx) f4)
   obtain⟨us',ts',zs',cap2,n1,n2,n3,n4,n5,n6,n7,n8,n9⟩:=m3
   simp only at n9
   rw[k2]at n9; simp at n9; subst n9
   obtain⟨w4,l4⟩:=w3.addArr (b:=b) (ob:=.cells c2 t2) (row:=.arr sz (l++cs.map C.toD++ys)::op) (u:=.slice none cap cap) m2
    (RO.arr ⟨us',ts',zs',cap,n1,RD.mono hle.keep n2,n3,RCs.mono hle n4,n5,n6,n7,n8,by simp⟩) m4 m5
    (fun q hq hb=>by
     have hqn:q≠n:=fun he=>by subst he; simp at hq
     simp only[upd,hqn,if_false]at hq
     exact hqn (hw.inj q n b hq (by rw[hrow]; simp) hb k1))
    (fun k v hk hv hfull hb=>by
     cases hT:h.T k with
     | none=>exact hk hT
     | some ty2 =>
      obtain⟨_,v',q1,q2⟩:=hw.tok k ty2 hT
      simp only at hv
      rw[hv]at q1; simp at q1; subst q1
      obtain⟨s9,n9,xs,_,_,_,q5⟩:=q2.resolve_left hfull
      exact q5 b hb n (by rw[hrow]; simp) k1)
    (fun q hq hm=>by
     have hqn:q≠n:=fun he=>by subst he; simp at hq
     simp only[upd,hqn,if_false]at hq
     exact(hw.ext.mu q b hq hm).box n (by rw[hrow]; simp) k1)
    (fun c hc=>by
     rcases List.mem_cons.1 hc with rfl | hc
     ·rfl
     ·exact hopk c hc)
   refine⟨.slice (some ⟨b,0,none⟩) (len+m) cap,_,?_,?_,l2.trans l4,.inr ⟨b,cap,by simp,by simp,by simp,by simpa using hroom⟩⟩
   ·rw[hv]; exact hrun
   ·have e1:upd (upd (upd h.H n (some (.arr sz (l++cs.map C.toD++ys)::op))) n none) h.nx (some (.arr sz (l++cs.map C.toD++ys)::op))=upd (upd h.H n none) h.nx (some (.arr sz (l++cs.map C.toD++ys)::op)):=by
     funext q
     simp only[upd]
     split
     ·rfl
     ·split <;> rfl
    have:=w4
    simp only[e1]at this
    exact this
  ·refine grown (us++ts) cap hR hd ?_
   rw[hv]
   exact run_append_grow (P:=Γ.P) (w:=e.w) t ty el i z hu hi hz ⟨b,0,none⟩ len cap (us++ts) hol hcells ⟨bx,ox,none⟩ m cx (v1++v2) hm hnews (by omega) (by omega) (growslice_fits (by omega) hfit)
theorem WInv.reRow{Γ:Ctx}{h:Hp}{e:Env}(hw:WInv Γ h e){n:Nat}{row row':List C}(hn:h.H n=some row)(h1:∀ ob,RO e n row ob→RO e n row' ob)(h2:JpI e n row→JpI e n row')
  (hkc:∀ (j:Nat) (Φ:KP),row'[j]? = some (C.kc Φ)→row[j]? = some (C.kc Φ)) :
  WInv Γ { h with H:=upd h.H n (some row') } e:=by
 have g:∀ i,upd h.H n (some row') i≠none→h.H i≠none:=fun i hi=>by
  by_cases hin:i=n
  ·subst hin; simp[hn]
  ·simpa [upd,hin] using hi
 constructor
 ·exact hw.g0
 ·exact hw.os
 ·exact hw.tape
 ·exact hw.output
 ·exact hw.grown
 ·exact hw.hB
 ·exact hw.old
 ·exact hw.sdom
 ·exact hw.s0
 ·exact hw.s0B
 ·exact hw.keep
 ·intro m r hm
  by_cases hmn:m=n
  ·subst hmn
   simp only[upd_same,Option.some.injEq]at hm
   subst hm
   rcases hw.box m row hn with hz | ⟨b,ob,q1,q2,q3,q4⟩
   ·exact .inl (h2 hz)
   ·exact .inr ⟨b,ob,q1,q2,h1 ob q3,q4⟩
  ·simp only[upd,hmn,if_false]at hm; exact hw.box m r hm
 ·intro m m' b hm hm'
  exact hw.inj m m' b (g m hm) (g m' hm')
 ·intro k ty hk
  obtain⟨h0,v,q1,hor⟩:=hw.tok k ty hk
  refine⟨h0,v,q1,hor.imp id ?_⟩
  rintro ⟨sz,m,xs,z1,z2,z3,z4⟩
  exact⟨sz,m,xs,z1,z2,z3,fun b hb i hi=>z4 b hb i (g i hi)⟩
 ·exact hw.tokinj
 ·intro m hm
  obtain⟨g1,g2,g3,g4,g5⟩:=hw.fresh m hm
  refine⟨?_,g2,g3,g4,g5⟩
  have:m≠n:=fun he=>by rw[he,hn]at g1; cases g1
  simp[upd,this,g1]
 ·exact hw.nx0
 ·exact hw.rt
 ·exact hw.ext.of (fun _ k=>k) (Nat.le_refl _) (fun m b h1 h2=>⟨g m h1,h2⟩) (fun m b h1 k h2=>⟨rfl,fun o ho=>ho⟩) (fun m b i h1 k h2 hi=>k.box i (g i hi)) (fun m b i v h1 k h2 hi=>k.tok i v hi)
   (fun m r j Φ hm hj=>by
    by_cases hmn:m=n
    ·subst hmn
     simp only[upd_same,Option.some.injEq]at hm
     subst hm
     exact⟨row,hn,hkc j Φ hj,fun b cs ty v q1 q2 q3=>⟨cs,ty,q1,q2,q3⟩,fun _ k=>k⟩
    ·exact⟨r,by simpa [upd,hmn] using hm,hj,fun b cs ty v q1 q2 q3=>⟨cs,ty,q1,q2,q3⟩,fun _ k=>k⟩)
theorem JpL:∀ {q:List D},q.all D.one=true→q.flatMap D.cells=q
 | [],_=>rfl
 | d::q,hq=>by
  simp only[List.all_cons,Bool.and_eq_true]at hq
  rw[List.flatMap_cons,JpL hq.2]
  cases d <;> first | rfl | (cases hq.1)
theorem WInv.trunc{Γ:Ctx}{h:Hp}{e:Env}(hw:WInv Γ h e){n sz k:Nat}{l:List D}{cs:List C}(hn:h.H n=some (.arr sz l::cs))(hD:cs.all C.isD=true)(h1D:(cs.map C.toD).all D.one=true)
  (hk:k≤l.length+cs.length):WInv Γ { h with H:=upd h.H n (some [.arr sz ((l++cs.map C.toD).take k)]) } e:=by
 refine hw.reRow hn (fun ob ho=>?_) ?_ (fun j Φ hj=>(Jcr (l:=[C.arr _ _]) (fun c hc=>by simp at hc; subst hc; rfl) hj).elim)
 ·obtain⟨cur,ty,rfl,us,ts,zs,cap,j1,j2,j3,j4,j5,j6,j7,j8,j9⟩:=ho.plain rfl
  have hul:us.length=l.length * sz:=by rw[j2.length,Vt j3]
  have htl:ts.length=cs.length:=j4.length
  have hct:cs.length=cs.length * sz:=by
   rcases j5 with j5 | j5
   ·subst j5; simp
   ·rw[j5,Nat.mul_one]
  have hR:Rn e.w e.S ((l++cs.map C.toD).flatMap D.cells) (us++ts):=by
   rw[List.flatMap_append,JpL h1D]; exact j2.append (RCs.toD hD j4)
  have hd:∀ d∈l++cs.map C.toD,d.cells.length=sz:=fun d hd'=>by
   rcases List.mem_append.1 hd' with hd' | hd'
   ·exact j3 d hd'
   ·rcases j5 with j5 | j5
    ·subst j5; simp at hd'
    ·have:=List.all_eq_true.1 h1D d hd'
     rw[j5]
     cases d <;> first | rfl | (cases this)
  refine RO.arr ⟨(us++ts).take (k * sz),[],(us++ts).drop (k * sz)++zs,cap,?_,?_,fun d hd'=>hd d (List.mem_of_mem_take hd'),trivial,.inl rfl,j6,j7,j8,j9⟩
  ·rw[j1,List.append_nil,← List.append_assoc,List.take_append_drop]
  ·rw[JfE _ hd]; exact hR.take _
 ·rintro ⟨q1,⟨sz',q2,q3⟩ | q2⟩
  ·obtain⟨⟨rfl,rfl⟩,rfl⟩:(sz=sz'∧l=[])∧cs=[]:=by simpa using q2
   exact⟨q1,.inl ⟨sz,by simp,q3⟩⟩
  ·cases q2
theorem WInv.addNil{Γ:Ctx}{h:Hp}{e:Env}(hw:WInv Γ h e){row:List C}(hr:(∃ sz,row=[.arr sz []]∧0<sz)∨row=[.bar []]):
  WInv Γ { h with H:=upd h.H h.nx (some row),nx:=h.nx+1 } e:=by
 obtain⟨f1,f2,f3,f4,f5⟩:=hw.fresh h.nx (Nat.le_refl _)
 constructor
 ·exact hw.g0
 ·exact hw.os
 ·exact hw.tape
 ·exact hw.output
 ·exact hw.grown
 ·exact hw.hB
 ·exact hw.old
 ·exact hw.sdom
 ·exact hw.s0
 ·exact hw.s0B
 ·exact hw.keep
 ·intro m r hm
  by_cases hmn:m=h.nx
  ·subst hmn
   simp only[upd_same,Option.some.injEq]at hm
   subst hm
   exact .inl ⟨f3,hr⟩
  ·simp only[upd,hmn,if_false]at hm; exact hw.box m r hm
 ·intro m m' b hm hm' hb hb'
  have e1:m≠h.nx:=fun he=>by rw[he,f3]at hb; cases hb
  have e2:m'≠h.nx:=fun he=>by rw[he,f3]at hb'; cases hb'
  exact hw.inj m m' b (by simpa [upd,e1] using hm) (by simpa [upd,e2] using hm') hb hb'
 ·intro k ty hk
  obtain⟨h0,v,q1,hor⟩:=hw.tok k ty hk
  refine⟨h0,v,q1,hor.imp id ?_⟩
  rintro ⟨sz,m,xs,z1,z2,z3,z4⟩
  refine⟨sz,m,xs,z1,z2,z3,fun b hb i hi hρ=>?_⟩
  have e1:i≠h.nx:=fun he=>by rw[he,f3]at hρ; cases hρ
  exact z4 b hb i (by simpa [upd,e1] using hi) hρ
 ·exact hw.tokinj
 ·intro m hm
  have hne:m≠h.nx:=by simp at hm; omega
  obtain⟨g1,g2,g3,g4,g5⟩:=hw.fresh m (by simp at hm; omega)
  exact⟨by simp[upd,hne,g1],g2,g3,g4,g5⟩
 ·exact Nat.succ_pos _
 ·exact⟨Nat.lt_succ_of_lt hw.rt.1,hw.rt.2⟩
 ·have gH:∀ n,n≠h.nx→upd h.H h.nx (some row) n≠none→h.H n≠none:=fun n hn=>by simp[upd,hn]
  have hne:∀ n m,e.μ n m→n≠h.nx:=fun n m hm he=>f5 m (he ▸ hm)
  refine hw.ext.of (fun _ k=>k) (Nat.le_refl _) (fun n m h1 h2=>⟨gH n (hne n m h2) h1,h2⟩) (fun n m h1 k h2=>⟨rfl,fun o ho=>ho⟩) (fun n m i h1 k h2 hi hρ=>?_) (fun n m i v h1 k h2 hi=>k.tok i v hi)
   (fun n r j Φ hn hj=>?_)
  ·have hin:i≠h.nx:=fun he=>by rw[he,f3]at hρ; cases hρ
   exact k.box i (gH i hin hi) hρ
  ·by_cases hin:n=h.nx
   ·subst hin
    simp only[upd_same,Option.some.injEq]at hn
    subst hn
    refine(Jcr (l:=row) (fun c hc=>?_) hj).elim
    rcases hr with⟨sz,rfl,_⟩ | rfl <;> (simp at hc; subst hc; rfl)
   ·exact⟨r,by simpa [upd,hin] using hn,hj,fun b cs ty v q1 q2 q3=>⟨cs,ty,q1,q2,q3⟩,fun m k=>k⟩
theorem WInv.reName{Γ:Ctx}{h:Hp}{e:Env}(hw:WInv Γ h e){n b:Nat}{row row':List C}{u:Value}(hn:h.H n=some row)(hρ:e.ρ n=some b)(hτ:e.τ n=some u)
  (hro:∀ (e':Env) (ob:Obj),e.le e'→e'.w=e.w→e'.τ h.nx=some u→RO e n row ob→RO e' h.nx row' ob) (hkc:∀ c∈row',c.noK=true) :
  ∃ e',e'.w=e.w∧WInv Γ { h with H:=upd (upd h.H n none) h.nx (some row'),nx:=h.nx+1 } e'∧e.le e'∧e'.ρ h.nx=some b∧e'.τ h.nx=some u:=by
 obtain⟨ob,q1,q2,q3,q4⟩:=hw.boxAny hρ row hn
 obtain⟨f1,f2,f3,f4,f5⟩:=hw.fresh h.nx (Nat.le_refl _)
 have hle:=(Env.le_name (b:=b) f3).trans (Env.le_tok (v:=u) (e:={ e with ρ:=upd e.ρ h.nx (some b) }) f4)
 obtain⟨w4,l4⟩:=(hw.dropBox n).addArr (b:=b) (ob:=ob) (row:=row') (u:=u) q1 (hro { e with ρ:=upd e.ρ h.nx (some b),τ:=upd e.τ h.nx (some u) } ob hle rfl (by simp) q2) q3 q4
  (fun q hq hb=>by
   have hqn:q≠n:=fun he=>by subst he; simp at hq
   simp only[upd,hqn,if_false]at hq
   exact hqn (hw.inj q n b hq (by rw[hn]; simp) hb hρ))
  (fun k v hk hv hfull hb=>by
   cases hT:h.T k with
   | none=>exact hk hT
   | some ty2 =>
    obtain⟨_,v',r1,r2⟩:=hw.tok k ty2 hT
    rw[hv]at r1; simp at r1; subst r1
    obtain⟨s9,n9,xs,_,_,_,q5⟩:=r2.resolve_left hfull
    exact q5 b hb n (by rw[hn]; simp) hρ)
  (fun q hq hm=>by
   have hqn:q≠n:=fun he=>by subst he; simp at hq
   simp only[upd,hqn,if_false]at hq
   exact(hw.ext.mu q b hq hm).box n (by rw[hn]; simp) hρ) hkc
 exact⟨{ e with ρ:=upd e.ρ h.nx (some b),τ:=upd e.τ h.nx (some u) },rfl,w4,l4,by simp,by simp⟩
theorem RB.reArr{e e':Env}(h:e.le e'){n m sz cap:Nat}{l:List D}{vs:List Value}(h1:e.τ n=some (.slice none cap cap))(h2:e'.τ m=some (.slice none cap cap))(k:RB e n [.arr sz l] vs):RB e' m [.arr sz l] vs:=by
 obtain⟨us,ts,zs,cap',k1,k2,k3,k4,k5,k6,k7,k8,k9⟩:=k
 rw[h1]at k9; simp at k9; subst k9
 exact⟨us,ts,zs,cap,k1,RD.mono h.keep k2,k3,RCs.mono h k4,k5,k6,k7,k8,h2⟩
theorem WInv.renArr{Γ:Ctx}{h:Hp}{e:Env}(hw:WInv Γ h e){n sz:Nat}{l:List D}{v:Value}(hn:h.H n=some [.arr sz l])(hsz:0<sz)(hv:RC e (.os n sz 0 l.length) v):
  ∃ e',e'.w=e.w∧WInv Γ { h with H:=upd (upd h.H n none) h.nx (some [.arr sz l]),nx:=h.nx+1 } e'∧e.le e'∧RC e' (.os h.nx sz 0 l.length) v:=by
 rcases hv with⟨h0,o,rfl⟩|⟨b,cap,k1,k2,hv,k4⟩
 ·have:l=[]:=List.length_eq_zero_iff.1 h0
  subst this
  exact⟨e,rfl,(hw.dropBox n).addNil (.inl ⟨sz,rfl,hsz⟩),Env.le.refl e,.inl ⟨rfl,o,rfl⟩⟩
 ·obtain⟨e',g1,g2,g3,g4,g5⟩:=hw.reName (row':=[.arr sz l]) hn k1 k2 (fun e' ob hl hw' ht ho=>by
   obtain⟨cs,ty,rfl,hrb⟩:=ho.plain rfl
   exact RO.arr (RB.reArr hl k2 ht hrb)) (fun c hc=>by simp at hc; subst hc; rfl)
  exact⟨e',g1,g2,g3,.inr ⟨b,cap,g4,g5,hv,k4⟩⟩
theorem Jk3{Γ:Ctx}{h:Hp}{e:Env}(hw:WInv Γ h e){x:AV}{v:Value}(hr:RA e x v){p:Prop}{szy:Nat}{ys:List D}(hy:ysOf h x=some (p,szy,ys))(hp:p):
  (ys=[]∧(v=.slice none 0 0∨∃ a c,v=.slice (some a) 0 c))∨∃ bx ox cx v1,v=.slice (some ⟨bx,ox,none⟩) ys.length cx∧Rn e.w e.S (ys.flatMap D.cells) v1∧(∀ d∈ys,d.cells.length=szy) ∧
   v1.length=ys.length * szy∧∀ j u,v1[j]? = some u→e.w.cell? ⟨bx,ox+j,none⟩=some u:=by
 unfold ysOf at hy
 split at hy
 ·rename_i n sz off len
  split at hy
  ·rename_i sz' l hrow
   simp only[Option.some.injEq,Prod.mk.injEq]at hy
   obtain⟨rfl,rfl,rfl⟩:=hy
   obtain⟨rfl,hle⟩:=hp
   rcases hr with⟨rfl,o,rfl⟩|⟨b,cap,k1,k2,hv,k4⟩
   ·left
    refine⟨by simp,?_⟩
    cases o with
    | none=>exact .inl rfl
    | some a=>exact .inr ⟨a,0,rfl⟩
   ·right
    obtain⟨b',cur,ty,h4,h5,h6,h7,h8⟩:=hw.boxAt k1 _ hrow rfl
    rw[k1]at h4; simp at h4; subst h4
    obtain⟨us,ts,zs,cap',j1,j2,j3,j4,j5,j6,j7,j8,j9⟩:=h6
    have hts:ts=[]:=by cases ts with | nil=>rfl | cons _ _=>exact j4.elim
    subst hts
    rw[List.append_nil]at j1
    have hul:us.length=l.length * sz':=by rw[j2.length,Vt j3]
    have hlen:((l.drop off).take len).length=len:=by simp; omega
    have hsub:∀ d∈(l.drop off).take len,d.cells.length=sz':=fun d hd=>j3 d (List.mem_of_mem_drop (List.mem_of_mem_take hd))
    refine⟨b,off * sz',cap-off,(us.drop (off * sz')).take (len * sz'),by rw[hlen]; exact hv,?_,hsub,?_,fun j u hj=>?_⟩
    ·rw[JfE _ (fun d hd=>j3 d (List.mem_of_mem_drop hd)),JgV _ j3]
     exact(j2.drop _).take _
    ·rw[hlen,List.length_take,List.length_drop,hul,← Nat.sub_mul]
     exact Nat.min_eq_left (Nat.mul_le_mul_right _ (by omega))
    ·rw[List.getElem?_take]at hj
     split at hj
     ·rw[List.getElem?_drop]at hj
      have hlt:=(List.getElem?_eq_some_iff.1 hj).1
      have:cur.toList[off * sz'+j]? = some u:=by rw[j1,List.getElem?_append_left hlt]; exact hj
      simp only[World.cell?,h5]
      simpa using this
     ·cases hj
  ·cases hy
 ·simp only[Option.some.injEq,Prod.mk.injEq]at hy
  obtain⟨rfl,rfl,rfl⟩:=hy
  obtain⟨b,rfl,hc,hS⟩:=hr
  refine .inr ⟨b,0,1,[.slice none 0 0],rfl,?_,by intro d hd; simp at hd; subst hd; rfl,rfl,fun j u hj=>?_⟩
  ·exact .acons (.sl 11 []) _ _ _ (.slnil 11 _) .anil
  ·cases j with
   | zero=>simp at hj; subst hj; exact hc
   | succ j=>simp at hj
 ·split at hy
  ·rename_i sz l hs
   simp only[Option.some.injEq,Prod.mk.injEq]at hy
   obtain⟨rfl,rfl,rfl⟩:=hy
   have h3:=hr.slD hs
   rcases h3.slInv with⟨h0,o,hv⟩|⟨vs,b,of,cap,hv,r4,r5,r6,r7⟩
   ·left
    refine⟨h0,?_⟩
    cases o with
    | none=>exact .inl hv
    | some a=>exact .inr ⟨a,0,hv⟩
   ·exact .inr ⟨b,of,cap,vs,hv,r4,r6,by rw[r4.length,Vt r6],fun j u hj=>(r5 j u hj).1⟩
  ·cases hy
theorem Joi{Γ:Ctx}{σ:Nat→AV}{h:Hp}(o:Oper)(t:TypeId)(s x:Operand)(ho:o.op=.call { callee:=.builtin .append,args:=#[s,x],argTypes:=#[t,t] }){n sz len szy:Nat}{ys:List D}{op:List C}
  (hs:evA σ s=.c (.os n sz 0 len)) (hp:(JbG Γ.P h t n sz len szy ys op (h.H n)).pre)
  (hy0:∀ (a:Act) (e:Env),Jc4 o σ a e→WInv Γ h e→ys.length+op.length=0→a.eval x=.slice none 0 0∨∃ b c,a.eval x=.slice (some b) 0 c)
  (hy:∀ (a:Act) (e:Env),Jc4 o σ a e→WInv Γ h e→0<ys.length+op.length→szy=sz→(∀ y∈ys,y.cells.all D.one=true)→op.all C.one=true→∃ bx ox cx v1 v2,a.eval x=.slice (some ⟨bx,ox,none⟩) (ys.length+op.length) cx∧Rn e.w e.S (ys.flatMap D.cells) v1∧(∀ d∈ys,d.cells.length=sz)∧RCs e op v2 ∧
   (v1++v2).length=(ys.length+op.length) * sz∧∀ j v,(v1++v2)[j]? = some v→e.w.cell? ⟨bx,ox+j,none⟩=some v) :
  VR Γ o σ h (JbG Γ.P h t n sz len szy ys op (h.H n)).val (JbG Γ.P h t n sz len szy ys op (h.H n)).h:=by
 have hex:∀ (a:Act) (w w':World) (r:Value),(Builtin.append_ #[t,t] o.type #[a.eval s,a.eval x]).run Γ.P w=.ok r w'→(execOp a.eval o).run Γ.P w=.ok (.value r) w':=by
  intro a w w' r hr
  simp only[execOp,ho,resolve,invoke,builtin,Sem.run_bind,Sem.run_pure,Result.andThen_ok,List.map_toArray,List.map_cons,List.map_nil,hr]
 unfold JbG at *
 split at hp
 case h_2=>exact hp.elim
 rename_i sz' l cs hrow
 obtain⟨p1,p2,p3,p4,p5,rfl,p6,p7,p8,p9,p10,p12,p13,p14,p15⟩:=hp
 intro a e hop hw K Q hk
 have h1:=hop s (by simp[ho,Op.operands,Call.operands])
 rw[hs]at h1
 unfold JU at p1
 split at p1
 case h_2=>simp at p1
 rename_i el hu
 have he:Ju Γ.P t=el:=by simp[Ju,hu]
 rw[he]at p2 p3 p5 p12
 simp only[Bool.and_eq_true]at p1
 obtain⟨i,hi⟩:=Option.isSome_iff_exists.1 p1.1
 have hisz:i.size=sz:=by rw[p5]; simp[Jo,hi]
 have hib:Zc Γ.P el=i.bytes:=by simp[Zc,hi]
 have hwt:=hw.trunc hrow p8 p9 p7
 have hLl:((l++cs.map C.toD).take len).length=len:=by simp; omega
 have ext:∀ r:Option (List C),(upd (upd (upd h.H n (some [C.arr sz ((l++cs.map C.toD).take len)])) n none) h.nx r)=upd (upd h.H n none) h.nx r:=fun r=>by
  funext q
  simp only[upd]
  split
  ·rfl
  ·split <;> rfl
 by_cases h0:ys.length+op.length=0
 ·have hys:ys=[]:=List.length_eq_zero_iff.1 (by omega)
  have hops:op=[]:=List.length_eq_zero_iff.1 (by omega)
  subst hys; subst hops
  have hx0:=hy0 a e hop hw h0
  obtain⟨e',g1,g2,g3,g4⟩:=hwt.renArr (n:=n) (l:=(l++cs.map C.toD).take len) (by simp) p4 (by rw[hLl]; exact h1)
  have hsz:=J6 Γ.P el e.w (by simp[JQ,p1])
  have hv:∃ base m cap,a.eval s=.slice base m cap∧m≤cap:=by
   rcases h1 with⟨_,o',h⟩|⟨b,cap,_,_,h,h2⟩
   ·exact⟨_,_,_,h,Nat.le_refl _⟩
   ·exact⟨_,_,_,h,by omega⟩
  obtain⟨base,m,cap,hv,hm⟩:=hv
  have hrun:(Builtin.append_ #[t,t] o.type #[a.eval s,a.eval x]).run Γ.P e.w=.ok (a.eval s) e.w:=by
   rw[hv]; exact JeX hu hsz hm hx0
  refine KT (hex _ _ _ _ hrun) ?_
  rw[← g1]
  simp only[ext]at g2
  rw[hLl]at g4
  simp only[List.append_nil,List.length_nil,Nat.add_zero]at hk
  exact hk _ e' g2 g3 g4
 ·obtain⟨bx,ox,cx,v1,v2,hxv,hr1,hd1,hr2,hm,hc⟩:=hy a e hop hw (by omega) p6 p14 p15
  obtain⟨z,_,hz2,hz⟩:=XR p2 e.w
  have hz:i.zero=some z:=by simpa [hi] using hz
  have hzl:z.cells.size=i.size:=by rw[hisz,p5,← p3,← hz2]; simp
  have hone:∀ v∈v1++v2,v.oneCell'=true:=fun v hv=>by
   rcases List.mem_append.1 hv with hv | hv
   ·exact hr1.one (JpK p14) v hv
   ·exact hr2.one p15 v hv
  obtain⟨r,e',g1,g2,g3,g4⟩:=Jw8 (ty:=o.type) (cx:=cx) (n:=n) (l:=(l++cs.map C.toD).take len) (cs:=[]) (len:=len) hwt hu hi hz hzl (by simp) rfl hisz p4 (by simp; omega) rfl rfl h1 hr1 hd1 hr2 p10 (by rw[hm,hisz]) (fun j v hj=>by
   have:=hc j v hj
   simp only[Addr.add]
   split
   ·rename_i h0; simpa [h0] using this
   ·exact this) (by omega) (by rw[← hib]; exact p12) p13 hone (fun c hc=>Jse (List.all_eq_true.1 p15 c hc))
  rw[← hxv]at g1
  simp only[List.map_nil,List.append_nil,ext]at g2
  exact KT (hex _ _ _ _ g1) (hk _ e' g2 g3 g4)
theorem Juh{Γ:Ctx}{σ:Nat→AV}{h:Hp}(o:Oper)(t:TypeId)(s x:Operand)(ho:o.op=.call { callee:=.builtin .append,args:=#[s,x],argTypes:=#[t,t] }){sz k:Nat}{l:List D}(hs:evA σ s=.c (.sl sz l k))
  (hp:(Jcq Γ.P h t sz l k (ysOf h (evA σ x))).pre):VR Γ o σ h (Jcq Γ.P h t sz l k (ysOf h (evA σ x))).val (Jcq Γ.P h t sz l k (ysOf h (evA σ x))).h:=by
 have hex:∀ (a:Act) (w w':World) (r:Value),(Builtin.append_ #[t,t] o.type #[a.eval s,a.eval x]).run Γ.P w=.ok r w'→(execOp a.eval o).run Γ.P w=.ok (.value r) w':=by
  intro a w w' r hr
  simp only[execOp,ho,resolve,invoke,builtin,Sem.run_bind,Sem.run_pure,Result.andThen_ok,List.map_toArray,List.map_cons,List.map_nil,hr]
 unfold Jcq at *
 split at hp
 case h_2=>exact hp.elim
 rename_i px szy ys hx
 obtain⟨p1,p2,p3,p4,p5,p6,p7,p8,p9,p10,p11⟩:=hp
 intro a e hop hw K Q hk
 have h1:=hop s (by simp[ho,Op.operands,Call.operands])
 rw[hs]at h1
 obtain⟨h1,h2⟩:=h1
 have h3:=Jk3 hw (hop x (by simp[ho,Op.operands,Call.operands])) hx p11
 unfold JU at p1
 split at p1
 case h_2=>simp at p1
 rename_i el hu
 have he:Ju Γ.P t=el:=by simp[Ju,hu]
 rw[he]at p2 p3 p4 p5 p6 p7 p8 hk
 simp only[Bool.and_eq_true]at p1
 have hsz:=J6 Γ.P el e.w (by simp[JQ,p1])
 have h1:=R1.resize h1 p5
 generalize hS:Jo Γ.P el=size at *
 obtain⟨i,hi⟩:=Option.isSome_iff_exists.1 p1.1
 have hisz:i.size=size:=by rw[← hS]; simp[Jo,hi]
 have hib:Zc Γ.P el=i.bytes:=by simp[Zc,hi]
 obtain⟨z,_,hz2,hz⟩:=XR p2 e.w
 have hz:i.zero=some z:=by simpa [hi] using hz
 have hzl:z.cells.size=size:=by rw[← p3,← hz2]; simp
 have hnx:h.nx≠0:=by have:=hw.nx0; omega
 rcases List.eq_nil_or_concat ys with hys | hys
 ·-- nothing is appended
  subst hys
  have hxs:a.eval x=.slice none 0 0∨∃ a' c,a.eval x=.slice (some a') 0 c:=by
   rcases h3 with⟨_,h⟩|⟨b,of,cap,vs,h,_⟩
   ·exact h
   ·exact .inr ⟨_,cap,h⟩
  have hv:∃ base n cap,a.eval s=.slice base n cap∧n≤cap:=by
   rcases h1.slInv with⟨_,o',h⟩|⟨vs,b,of,cap,h,_,_,_,hc⟩
   ·exact⟨_,_,_,h,Nat.le_refl _⟩
   ·exact⟨_,_,_,h,hc⟩
  obtain⟨base,n,cap,hv,hn⟩:=hv
  have hrun:(Builtin.append_ #[t,t] o.type #[a.eval s,a.eval x]).run Γ.P e.w=.ok (a.eval s) e.w:=by
   rw[hv]; exact JeX hu hsz hn hxs
  rcases h2 with hfull | ⟨hk0,hτ⟩
  ·obtain⟨e',g1,g2,g3⟩:=(hw.dropTok k).tokFull el hfull
   refine KT (hex _ _ _ _ hrun) ?_
   rw[← g1]
   refine hk _ e' g2 g3 ?_
   simp only[List.append_nil]
   exact⟨RD.mono g3.keep h1,.inl hfull⟩
  ·have p7:=p7.resolve_left hk0
   obtain⟨_,v,q1,qor⟩:=hw.tok k el p7
   rw[hτ]at q1
   simp at q1
   subst q1
   obtain⟨g2,g3⟩:=(hw.dropTok k).addTok (v:=a.eval s) (ty:=el) qor (fun hf j u b hj hu' hb hfu hb'=>by
    have hjk:j≠k:=fun he=>by subst he; simp at hj
    have hTj:h.T j≠none:=by simpa [upd,hjk] using hj
    exact hjk (hw.tokinj j k u _ b hTj (by rw[p7]; simp) hu' hτ hb hb' hfu hf)) (fun hf n m hn hm=>(hw.ext.mu n m hn hm).tok k _ (by rw[p7]; simp) hτ hf)
   have hK:=hk (a.eval s) _ g2 g3 (by
    simp only[List.append_nil]
    exact⟨RD.mono g3.keep h1,.inr ⟨hnx,by simp⟩⟩)
   exact KT (hex _ _ _ _ hrun) hK
 ·have hne:ys≠[]:=by obtain⟨_,_,rfl⟩:=hys; simp
  have hpos:0<ys.length:=List.length_pos_iff.2 hne
  rcases h3 with⟨h,_⟩|⟨bx,ox,cx,vx,hxv,r4,r6,r7,r5⟩
  ·exact absurd h hne
  have hszy:=(p6.resolve_left hne).symm
  subst hszy
  have hvx:vx.length=ys.length * i.size:=by rw[hisz]; exact r7
  have hnews:∀ j v,vx[j]? = some v→e.w.cell? ((⟨bx,ox,none⟩:Addr).add j)=some v:=fun j v hj=>by
   have:=r5 j v hj
   simp only[Addr.add]
   split
   ·rename_i h0; simpa [h0] using this
   ·exact this
  -- a new array
  have hgrow:∀ (olds:List Value) (vs:List Value) (n old:Nat),Rn e.w e.S (l.flatMap D.cells) vs→(∀ d∈l,d.cells.length=size)→n=l.length →
    (Builtin.append_ #[t,t] o.type #[a.eval s,a.eval x]).run Γ.P e.w=.ok (.slice (some ⟨e.w.heap.size,0,none⟩) (n+ys.length) (grownCap e.w (n+ys.length) old el))
     (e.w.drew.alloc (.cells (vs.toArray++vx.toArray++Builtin.zeroCells z.cells (grownCap e.w (n+ys.length) old el-(n+ys.length))) el))→o.wp Γ.P a e.w K Q:=by
   intro olds vs n old hR hd hn hrun
   subst hn
   have hge:=grownCap_ge e.w (l.length+ys.length) old el
   have hmx:=grownCap_le_maxLen e.w (l.length+ys.length) old el (by unfold maxLen; omega)
   have hvl:vs.length=l.length * size:=by rw[hR.length,Vt hd]
   obtain⟨e',g1,g2,g3,g4⟩:=(hw.dropTok k).newArr (el:=el) (sz:=size) (cap:=grownCap e.w (l.length+ys.length) old el) (l:=l++ys) (vs:=vs++vx)
    (zs:=(Builtin.zeroCells z.cells (grownCap e.w (l.length+ys.length) old el-(l.length+ys.length))).toList)
    (cur:=vs.toArray++vx.toArray++Builtin.zeroCells z.cells (grownCap e.w (l.length+ys.length) old el-(l.length+ys.length)))
    ⟨by omega,hS.symm⟩ (by rw[List.flatMap_append]; exact hR.append r4) (fun d hd'=>by
     rw[List.mem_append]at hd'
     rcases hd' with hd' | hd'
     ·exact hd d hd'
     ·exact r6 d hd') (by simp) (by
     simp only[Array.size_append,List.size_toArray,size_zeroCells,hzl,hvl,hvx,hisz,← Nat.add_mul]
     congr 1; omega) (by simpa using hge) hmx
   refine KT (hex _ _ _ _ hrun) ?_
   rw[← g1]
   rw[List.length_append]at g4
   exact hk _ e' g2 g3 g4
  have hfit:(l.length+ys.length) * i.bytes≤140737488355328:=by rw[← hib]; exact p8
  rcases h1.slInv with⟨hl,_ | a',hv⟩|⟨vs,b,of,cap,hv,r8,r9,r10,r11⟩
  ·subst hl
   refine hgrow [] [] 0 0 .anil (by simp) rfl ?_
   simp only[List.length_nil,Nat.zero_add]at hfit ⊢
   rw[hv,hxv]
   have:=run_append_nil (P:=Γ.P) (w:=e.w) t o.type el i z hu hi hz ⟨bx,ox,none⟩ ys.length cx vx hvx hnews hpos (by simp at p9; omega) (by omega)
   simpa using this
  ·subst hl
   refine hgrow [] [] 0 0 .anil (by simp) rfl ?_
   simp only[List.length_nil,Nat.zero_add]at hfit ⊢
   rw[hv,hxv]
   have:=run_append_grow (P:=Γ.P) (w:=e.w) t o.type el i z hu hi hz a' 0 0 [] (by simp) (by simp) ⟨bx,ox,none⟩ ys.length cx vx hvx hnews (by omega) (by omega) (growslice_fits (by omega) (by simpa using hfit))
   simpa using this
  ·have hvs:vs.length=l.length * i.size:=by rw[hisz,r8.length,Vt r10]
   have holds:∀ j v,vs[j]? = some v→e.w.cell? ((⟨b,of,none⟩:Addr).add j)=some v:=fun j v hj=>by
    have:=(r9 j v hj).1
    simp only[Addr.add]
    split
    ·rename_i h0; simpa [h0] using this
    ·exact this
   by_cases hroom:l.length+ys.length≤cap
   ·-- it stays
    have hnfull:¬ Vw (a.eval s):=by
     rintro ⟨a',n',h2⟩
     rw[hv]at h2
     simp at h2
     omega
    obtain⟨hk0,h2⟩:=h2.resolve_left hnfull
    have p7:=p7.resolve_left hk0
    obtain⟨_,v,q1,qor⟩:=hw.tok k el p7
    rw[h2]at q1
    simp at q1
    subst q1
    obtain⟨s2,n2,xs,q2,q3,q4,q5⟩:=qor.resolve_left hnfull
    have hs2:s2=size:=by rw[q2.2,hS]
    subst hs2
    rcases Jib q3.1 with hh | ⟨g,cap',cur,hh,t1,t2,t3,t4,t5,t6⟩
    ·rw[hv]at hh; cases hh
    rw[hv]at hh
    simp at hh
    obtain⟨⟨rfl,rfl⟩,rfl,rfl⟩:=hh
    have hxs:vs=xs:=by
     apply List.ext_getElem?
     intro j
     rw[← t6]
     rcases Nat.lt_or_ge j vs.length with hj | hj
     ·have hj':vs[j]? = some vs[j]:=List.getElem?_eq_getElem hj
      have:=(r9 j _ hj').1
      simp[World.cell?,t2]at this
      rw[hj',List.getElem?_take,if_pos (by rw[hvs,hisz]at hj; exact hj)]
      simpa using this.symm
     ·rw[List.getElem?_eq_none hj,List.getElem?_eq_none (by simp; rw[hvs,hisz]at hj; omega)]
    subst hxs
    have hnewslen:l.length * i.size+vx.length≤cur.size:=by rw[hvx,t5,← Nat.add_mul,hisz]; exact Nat.mul_le_mul_right _ hroom
    have hrun:=run_append_room (P:=Γ.P) (w:=e.w) t o.type el i hu hi b l.length cap cur t2 ⟨bx,ox,none⟩ ys.length cx vx hvx hnews (r4.one (JpK p10)) hroom hnewslen
    obtain⟨e',g1,g2,g3,g4,g5⟩:=hw.inPlace (k:=k) (el:=el) (g:=b) (n:=l.length) (cap:=cap) (cur:=cur) (xs:=vs) (news:=vx) (m:=ys.length) p7 (by rw[← hv]; exact h2) (by omega) ⟨by omega,hS.symm⟩ t2 (q3.2 b (by rw[hv]; rfl)) t5 t4 (by rw[hvx,hisz]) hroom t6
    rw[hisz]at hrun
    rw[← hv,← hxv]at hrun
    refine KT (hex _ _ _ _ hrun) ?_
    rw[← g1]
    refine hk _ e' g2 g3 ⟨?_,.inr ⟨hnx,g4⟩⟩
    have:=RD.sl (w:=e'.w) (S:=e'.S) _ (l++ys) (vs++vx) b 0 cap (by rw[List.flatMap_append]; exact RD.mono g3.keep (r8.append r4)) (fun i' x' hx'=>by
     rw[Nat.zero_add]
     refine g5 i' x' hx' fun j hj hSj=>?_
     have hj':j<vs.length:=by rw[hvs,hisz]; exact hj
     have:=(r9 j _ (List.getElem?_eq_getElem hj')).2
     simp at this
     exact this hSj) (fun d hd'=>by
     rw[List.mem_append]at hd'
     rcases hd' with hd' | hd'
     ·exact r10 d hd'
     ·exact r6 d hd') (by simpa using hroom)
    simpa using this
   ·refine hgrow vs vs l.length cap r8 r10 rfl ?_
    rw[hv,hxv]
    exact run_append_grow (P:=Γ.P) (w:=e.w) t o.type el i z hu hi hz ⟨b,of,none⟩ l.length cap vs hvs holds ⟨bx,ox,none⟩ ys.length cx vx hvx hnews (by omega) (by omega) (growslice_fits (by omega) hfit)
theorem JpS{Γ:Ctx}{σ:Nat→AV}{h:Hp}(o:Oper)(t:TypeId)(s x:Operand)(ho:o.op=.call { callee:=.builtin .append,args:=#[s,x],argTypes:=#[t,t] }){sz:Nat}{l:List D}(hs:∀ a e,Jc4 o σ a e→RA e (.c (.fs sz l)) (a.eval s))
  (hp:(Jc3 Γ.P h t sz l (ysOf h (evA σ x))).pre):VR Γ o σ h (Jc3 Γ.P h t sz l (ysOf h (evA σ x))).val (Jc3 Γ.P h t sz l (ysOf h (evA σ x))).h:=by
 have hex:∀ (a:Act) (w w':World) (r:Value),(Builtin.append_ #[t,t] o.type #[a.eval s,a.eval x]).run Γ.P w=.ok r w'→(execOp a.eval o).run Γ.P w=.ok (.value r) w':=by
  intro a w w' r hr
  simp only[execOp,ho,resolve,invoke,builtin,Sem.run_bind,Sem.run_pure,Result.andThen_ok,List.map_toArray,List.map_cons,List.map_nil,hr]
 unfold Jc3 at *
 split at hp
 case h_2=>exact hp.elim
 rename_i px szy ys hx
 obtain⟨p1,p2,p3,p4,p5,p6,p7,p8,p9,p10,p11⟩:=hp
 intro a e hop hw K Q hk
 have h1:=hs a e hop
 obtain⟨h1,h2⟩:=h1
 have h3:=Jk3 hw (hop x (by simp[ho,Op.operands,Call.operands])) hx p7
 unfold JU at p1
 split at p1
 case h_2=>simp at p1
 rename_i el hu
 have he:Ju Γ.P t=el:=by simp[Ju,hu]
 rw[he]at p2 p3 p4 p5 p6 p8 hk
 simp only[Bool.and_eq_true]at p1
 have hsz:=J6 Γ.P el e.w (by simp[JQ,p1])
 have h1:=R1.resize h1 p5
 generalize hS:Jo Γ.P el=size at *
 obtain⟨i,hi⟩:=Option.isSome_iff_exists.1 p1.1
 have hisz:i.size=size:=by rw[← hS]; simp[Jo,hi]
 have hib:Zc Γ.P el=i.bytes:=by simp[Zc,hi]
 obtain⟨z,_,hz2,hz⟩:=XR p2 e.w
 have hz:i.zero=some z:=by simpa [hi] using hz
 have hzl:z.cells.size=size:=by rw[← p3,← hz2]; simp
 rcases List.eq_nil_or_concat ys with hys | hys
 ·subst hys
  have hl:l=[]:=p11.resolve_right (by simp)
  subst hl
  have hxs:a.eval x=.slice none 0 0∨∃ a' c,a.eval x=.slice (some a') 0 c:=by
   rcases h3 with⟨_,h⟩|⟨b,of,cap,vs,h,_⟩
   ·exact h
   ·exact .inr ⟨_,cap,h⟩
  obtain⟨fa,fn,hv⟩:=h2
  have hn0:fn=0:=by
   rcases h1.slInv with⟨_,o',h⟩|⟨vs,b,of,cap,h,_⟩
   ·rw[hv]at h; simp at h; first | exact h.2.1 | exact h.2
   ·rw[hv]at h; simp at h; first | exact h.2.1 | exact h.2
  subst hn0
  have hrun:(Builtin.append_ #[t,t] o.type #[a.eval s,a.eval x]).run Γ.P e.w=.ok (a.eval s) e.w:=by
   rw[hv]; exact JeX hu hsz (Nat.le_refl _) hxs
  have hK:=hk (a.eval s) e (hw.addNil (row:=[.arr size []]) (.inl ⟨size,rfl,p4⟩)) (Env.le.refl e) (by rw[hv]; exact .inl ⟨rfl,_,rfl⟩)
  exact KT (hex _ _ _ _ hrun) hK
 ·have hne:ys≠[]:=by obtain⟨_,_,rfl⟩:=hys; simp
  have hpos:0<ys.length:=List.length_pos_iff.2 hne
  rcases h3 with⟨h,_⟩|⟨bx,ox,cx,vx,hxv,r4,r6,r7,r5⟩
  ·exact absurd h hne
  have hszy:=p6.resolve_left hne
  subst hszy
  have hvx:vx.length=ys.length * i.size:=by rw[hisz]; exact r7
  have hnews:∀ j v,vx[j]? = some v→e.w.cell? ((⟨bx,ox,none⟩:Addr).add j)=some v:=fun j v hj=>by
   have:=r5 j v hj
   simp only[Addr.add]
   split
   ·rename_i h0; simpa [h0] using this
   ·exact this
  have hgrow:∀ (vs:List Value) (old:Nat),Rn e.w e.S (l.flatMap D.cells) vs→(∀ d∈l,d.cells.length=szy) →
    (Builtin.append_ #[t,t] o.type #[a.eval s,a.eval x]).run Γ.P e.w=.ok (.slice (some ⟨e.w.heap.size,0,none⟩) (l.length+ys.length) (grownCap e.w (l.length+ys.length) old el))
     (e.w.drew.alloc (.cells (vs.toArray++vx.toArray++Builtin.zeroCells z.cells (grownCap e.w (l.length+ys.length) old el-(l.length+ys.length))) el))→o.wp Γ.P a e.w K Q:=by
   intro vs old hR hd hrun
   have hge:=grownCap_ge e.w (l.length+ys.length) old el
   have hmx:=grownCap_le_maxLen e.w (l.length+ys.length) old el (by unfold maxLen; omega)
   have hvl:vs.length=l.length * szy:=by rw[hR.length,Vt hd]
   obtain⟨e',g1,g2,g3,g4,g5⟩:=hw.newArrBox (el:=el) (sz:=szy) (cap:=grownCap e.w (l.length+ys.length) old el) (l:=l++ys) (op:=[]) (us:=vs++vx) (ts:=[])
    (zs:=(Builtin.zeroCells z.cells (grownCap e.w (l.length+ys.length) old el-(l.length+ys.length))).toList)
    (cur:=vs.toArray++vx.toArray++Builtin.zeroCells z.cells (grownCap e.w (l.length+ys.length) old el-(l.length+ys.length)))
    (by simp) (by rw[List.flatMap_append]; exact hR.append r4) (fun d hd'=>by
     rw[List.mem_append]at hd'
     rcases hd' with hd' | hd'
     ·exact hd d hd'
     ·exact r6 d hd') trivial (.inl rfl) p4 (by
     simp only[Array.size_append,List.size_toArray,size_zeroCells,hzl,hvl,hvx,hisz,← Nat.add_mul]
     congr 1; omega) hmx (fun c hc=>by cases hc)
   refine KT (hex _ _ _ _ hrun) ?_
   rw[← g1]
   exact hk _ e' g2 g3 (.inr ⟨_,_,g4,g5,by simp,by simpa using hge⟩)
  have hfit:(l.length+ys.length) * i.bytes≤140737488355328:=by rw[← hib]; exact p8
  rcases h1.slInv with⟨hl,_ | a',hv⟩|⟨vs,b,of,cap,hv,r8,r9,r10,r11⟩
  ·subst hl
   refine hgrow [] 0 .anil (by simp) ?_
   simp only[List.length_nil,Nat.zero_add]at hfit ⊢
   rw[hv,hxv]
   have:=run_append_nil (P:=Γ.P) (w:=e.w) t o.type el i z hu hi hz ⟨bx,ox,none⟩ ys.length cx vx hvx hnews hpos (by simp at p9; omega) (by omega)
   simpa using this
  ·subst hl
   refine hgrow [] 0 .anil (by simp) ?_
   simp only[List.length_nil,Nat.zero_add]at hfit ⊢
   rw[hv,hxv]
   have:=run_append_grow (P:=Γ.P) (w:=e.w) t o.type el i z hu hi hz a' 0 0 [] (by simp) (by simp) ⟨bx,ox,none⟩ ys.length cx vx hvx hnews (by omega) (by omega) (growslice_fits (by omega) (by simpa using hfit))
   simpa using this
  ·have hvs:vs.length=l.length * i.size:=by rw[hisz,r8.length,Vt r10]
   have holds:∀ j v,vs[j]? = some v→e.w.cell? ((⟨b,of,none⟩:Addr).add j)=some v:=fun j v hj=>by
    have:=(r9 j v hj).1
    simp only[Addr.add]
    split
    ·rename_i h0; simpa [h0] using this
    ·exact this
   have hcl:cap=l.length:=by
    obtain⟨fa,fn,hf⟩:=h2
    rw[hv]at hf
    simp at hf
    omega
   refine hgrow vs cap r8 r10 ?_
   rw[hv,hxv]
   exact run_append_grow (P:=Γ.P) (w:=e.w) t o.type el i z hu hi hz ⟨b,of,none⟩ l.length cap vs hvs holds ⟨bx,ox,none⟩ ys.length cx vx hvx hnews (by omega) (by omega) (growslice_fits (by omega) hfit)
theorem Jjj{P:Program}{w:World}(t u ty e e':TypeId)(i:TypeInfo)(ht:P.underlying t=some (.slice e))(hi:P.info? e=some i)(hs1:i.size=1)(hku:P.underlying u=some .string∨∃ q,P.underlying u=some (.slice q))
  (g sLen sCap m:Nat) (cur:Array Value) (fz:Nat×Nat) (hg:w.heap[g]? = some (.cells cur e' fz)) (hfz:fz.2≤sLen) (x:Value) (news:List Value) (hl:∀ w,(Builtin.lenOf x).run P w=.ok m w) (hm:news.length=m)
  (hf:(Builtin.firstCells 1 m x).run P w=.ok news.toArray w) (h1:∀ v∈news,v.oneCell'=true) (hroom:sLen+m≤sCap) (hfit:sLen+m≤cur.size) :
  (Builtin.append_ #[t,u] ty #[.slice (some ⟨g,0,none⟩) sLen sCap,x]).run P w =
   .ok (.slice (some ⟨g,0,none⟩) (sLen+m) sCap) (w.setRow g (cur.toList.take sLen++news++cur.toList.drop (sLen+m)).toArray):=by
 have hst:=run_storeCells_atF P g sLen e' fz news 0 cur w hg (by simpa using hfz) (by simpa [hm] using hfit) h1
 simp only[Nat.add_zero,hm]at hst
 rcases hku with hD | ⟨q,hD⟩ <;> simp[Builtin.append_,run_underlying ht,run_underlying hD,sizeOf,typeInfo,hi,hs1,hl,hroom,hf,Addr.add_lit,hst]
structure NewBytes (P:Program) (w:World) (t u el:TypeId) (x:Value) (ys:List UInt8):Prop where
 ku:P.underlying u=some .string∨∃ q,P.underlying u=some (.slice q)
 len:∀ w,(Builtin.lenOf x).run P w=.ok ys.length w
 fst:(Builtin.firstCells 1 ys.length x).run P w=.ok (KG ys).toArray w
 fst':(Builtin.firstCells 1 ys.length x).run P w.drew=.ok (KG ys).toArray w.drew
theorem JaD(l:List UInt8):(KG l).length=l.length:=by simp[KG]
theorem JsR(l:List UInt8):∀ v∈KG l,v.oneCell'=true:=by
 intro v hv
 simp only[KG,List.mem_map]at hv
 obtain⟨_,_,rfl⟩:=hv
 rfl
theorem Jic(a b:List UInt8):KG (a++b)=KG a++KG b:=by simp[KG]
theorem JfN{P:Program}{w:World}(t u ty e:TypeId)(i:TypeInfo)(z:Value)(ht:P.underlying t=some (.slice e))(hi:P.info? e=some i)(hz:i.zero=some z)(hs1:i.size=1)
  (b:Option Addr) (sLen sCap:Nat) (olds:List Value) (hlo:olds.length=sLen) (hbn:b=none→sLen=0∧sCap=0) (holds:∀ a,b=some a→∀ j v,olds[j]? = some v→w.cell? (a.add j)=some v) (x:Value) (ys:List UInt8) (hy:NewBytes P w t u e x ys)
  (hg:sCap<sLen+ys.length) (h63:((sLen+ys.length:Nat):Int)≤9223372036854775807) (hfit:Builtin.nextslicecap (sLen+ys.length) sCap * i.bytes≤281474976710656) :
  (Builtin.append_ #[t,u] ty #[.slice b sLen sCap,x]).run P w =
   .ok (.slice (some ⟨w.heap.size,0,none⟩) (sLen+ys.length) (grownCap w (sLen+ys.length) sCap e))
    (w.drew.alloc (.cells (olds.toArray++(KG ys).toArray++Builtin.zeroCells z.cells (grownCap w (sLen+ys.length) sCap e-(sLen+ys.length))) e)):=by
 have hn:¬ (sLen+ys.length≤sCap):=by omega
 have h63':¬ (9223372036854775807<((sLen:Int)+(ys.length:Int))):=by omega
 have h48':¬ (281474976710656<Builtin.nextslicecap (sLen+ys.length) sCap * i.bytes):=by omega
 have hfo:(Builtin.firstCells 1 sLen (.slice b sLen sCap)).run P w.drew=.ok olds.toArray w.drew:=by
  cases b with
  | none =>
   obtain⟨rfl,rfl⟩:=hbn rfl
   have:olds=[]:=List.length_eq_zero_iff.1 hlo
   subst this
   simp[Builtin.firstCells]
  | some a =>
   exact run_firstCells_some (P:=P) w.drew 1 sLen a sLen sCap olds (by simpa using hlo) (by simpa using holds a rfl)
 rcases hy.ku with hD | ⟨q,hD⟩ <;>
 ·simp[Builtin.append_,run_underlying ht,run_underlying hD,sizeOf,typeInfo,zeroValue,hi,hz,hs1,hy.len,hn,h63',h48',Question.forced,hy.fst',hfo,newRow,grownCap]
  congr 2
  apply Array.ext'
  simp[List.append_assoc]
theorem WInv.newBar{Γ:Ctx}{h:Hp}{e:Env}(hw:WInv Γ h e){el:TypeId}(hel:el=UTY){cap:Nat}{l:List UInt8}{zs:List Value}{cur:Array Value}(hcur:cur.toList=KG l++zs)(hcs:cur.size=cap)(hmax:cap≤maxLen):
  ∃ e',e'.w=e.w.drew.alloc (.cells cur el)∧WInv Γ { h with H:=upd h.H h.nx (some [.bar l]),nx:=h.nx+1 } e'∧e.le e'∧e'.ρ h.nx=some e.w.heap.size∧e'.τ h.nx=some (.slice none cap cap):=by
 have hg:Grows e.w (e.w.drew.alloc (.cells cur el)):=(Grows.drew e.w).trans (Grows.alloc _ _)
 obtain⟨w1,l1⟩:=hw.grows (S':=fun b o=>e.S b o∨b=e.w.heap.size) hg (fun b o hb=>⟨fun h=>h.resolve_right (by omega),.inl⟩) (fun b o hb=>by
  simp
  rcases hb with hb | hb
  ·have:=hw.sdom b o hb; omega
  ·omega)
 have hnew:(e.w.drew.alloc (.cells cur el)).heap[e.w.heap.size]? = some (.cells cur el (0,0)):=heap_alloc_new e.w.drew _
 obtain⟨w2,l2⟩:=w1.addArr (b:=e.w.heap.size) (ob:=.cells cur el) (row:=[.bar l]) (u:=.slice none cap cap) hnew
  ⟨rfl,cur,(0,0),zs,by rw[hel],Nat.zero_le _,hcur,by omega,by simp[hcs]⟩ (fun o _=>.inr rfl) (.inl hw.hB)
  (fun n hn hb=>by
   cases hH:h.H n with
   | none=>exact hn hH
   | some r =>
    simp only at hb
    obtain⟨ob,q2,_⟩:=hw.boxAny hb r hH
    have:=(Array.getElem?_eq_some_iff.1 q2).1
    omega)
  (fun k v hk hv hfull hb=>by
   cases hT:h.T k with
   | none=>exact absurd hT hk
   | some ty =>
    obtain⟨_,v',q1,q2⟩:=hw.tok k ty hT
    simp only at hv
    rw[hv]at q1; simp at q1; subst q1
    obtain⟨sz,n,xs,_,q2,_⟩:=q2.resolve_left hfull
    have:=(q2.1.lt _ hb).2
    omega)
  (fun n hn hm=>by have:=(hw.ext.mu n _ hn hm).lt; omega) (fun c hc=>by simp at hc; subst hc; rfl)
 exact⟨_,rfl,w2,l1.trans l2,by simp,by simp⟩
theorem WInv.setBar{Γ:Ctx}{h:Hp}{e:Env}(hw:WInv Γ h e){n b:Nat}{l l':List UInt8}{cs:Array Value}{fz:Nat×Nat}{vs zs:List Value}
  (hn:h.H n=some [.bar l]) (hρ:e.ρ n=some b) (hb:e.w.heap[b]? = some (.cells cs UTY fz)) (hfz:fz.2≤l'.length) (hv:vs=KG l'++zs) (hl:vs.length=cs.size) :
  WInv Γ { h with H:=upd h.H n (some [.bar l']) } { e with w:=e.w.setRow b vs.toArray }∧e.le { e with w:=e.w.setRow b vs.toArray }:=by
 obtain⟨ob,q2,q3,q4,q5⟩:=hw.boxAny hρ _ hn
 rw[hb]at q2
 simp at q2
 subst q2
 obtain⟨_,cs',fz',zs',k1,k2,k3,k4,k5⟩:=q3
 cases k1
 have hS:∀ o x,e.w.cell? ⟨b,o,none⟩=some x→e.S b o:=fun o x hx=>by
  have:cs[o]? = some x:=by simpa [World.cell?,hb] using hx
  exact q4 o (Array.getElem?_eq_some_iff.1 this).1
 have hle:e.le { e with w:=e.w.setRow b vs.toArray }:=⟨Keep.mk fun c o hc hs=>by
  have hne:c≠b:=fun he=>by
   subst he
   rcases hc with⟨x,hc⟩|⟨_,es,k,hc⟩
   ·exact hs (hS o x hc)
   ·rw[hb]at hc; cases hc
  exact⟨setRow_other _ _ _ _ hne,hs⟩,fun _ _ h=>h,fun _ _ h=>h⟩
 have g:∀ i,upd h.H n (some [C.bar l']) i≠none→h.H i≠none:=fun i hi=>by
  by_cases hin:i=n
  ·subst hin; simp[hn]
  ·simpa [upd,hin] using hi
 refine⟨?_,hle⟩
 constructor
 ·exact hw.g0
 ·exact hw.os
 ·exact hw.tape
 ·exact hw.output
 ·simpa using hw.grown
 ·simpa using hw.hB
 ·intro c hc hm
  have hne:c≠b:=fun he=>by
   subst he
   rcases q5 with h | h
   ·omega
   ·exact hm h
  exact(setRow_other _ _ _ _ hne).trans (hw.old c hc hm)
 ·intro c o hc; simpa using hw.sdom c o hc
 ·exact hw.s0
 ·exact hw.s0B
 ·exact hw.keep.trans hle.keep
 ·intro m r hmr
  by_cases hmn:m=n
  ·subst hmn
   simp only[upd_same,Option.some.injEq]at hmr
   subst hmr
   exact .inr ⟨b,_,hρ,setRow_heap _ _ _ _ _ _ hb,⟨rfl,_,fz,zs,rfl,hfz,by simpa using hv,by simp[hl]; exact k4,by simp[hl]; exact k5⟩,fun o ho=>q4 o (by simp[JcE,hl]at ho ⊢; omega),q5⟩
  ·simp only[upd,hmn,if_false]at hmr
   rcases hw.box m r hmr with hz | ⟨b',ob,h1,h2,h3,h4,h5⟩
   ·exact .inl hz
   have hne:b'≠b:=fun he=>by
    subst he
    exact hmn (hw.inj m n b' (by simp[hmr]) (by simp[hn]) h1 hρ)
   exact .inr ⟨b',ob,h1,(setRow_other _ _ _ _ hne).trans h2,RO.mono hle h3,h4,h5⟩
 ·intro m m' c hm hm'
  exact hw.inj m m' c (g m hm) (g m' hm')
 ·intro k ty' hk
  obtain⟨h0,v,h1,hor⟩:=hw.tok k ty' hk
  refine⟨h0,v,h1,hor.imp id ?_⟩
  rintro ⟨sz,m,xs,hsz,h2,h3,h4⟩
  have hne:∀ c,v.ownBlock=some c→c≠b:=fun c hc he=>by
   subst he
   exact h4 c hc n (by simp[hn]) hρ
  refine⟨sz,m,xs,hsz,⟨Jaj h2.1 (fun c hc=>setRow_other _ _ _ _ (hne c hc)),h2.2⟩,fun c o hc ho hs=>?_,fun c hc i hi=>h4 c hc i (g i hi)⟩
  have hce:(e.w.setRow b vs.toArray).cell? ⟨c,o,none⟩=e.w.cell? ⟨c,o,none⟩:=World.cell?_of_block (setRow_other _ _ _ _ (hne c hc))
  exact h3 c o hc ho (by rw[← hce]; exact hs)
 ·exact hw.tokinj
 ·intro m hm
  obtain⟨g1,g2,g3,g4,g5⟩:=hw.fresh m hm
  refine⟨?_,g2,g3,g4,g5⟩
  have:m≠n:=fun he=>by rw[he,hn]at g1; cases g1
  simp[upd,this,g1]
 ·exact hw.nx0
 ·exact hw.rt
 ·have hnn:h.H n≠none:=by simp[hn]
  refine hw.ext.of (fun _ k=>k) (by simp) (fun i m h1 h2=>⟨g i h1,h2⟩) (fun i m h1 k h2=>⟨setRow_other _ _ _ _ (fun he=>k.box n hnn (by rw[hρ,he])),fun o ho=>ho⟩)
   (fun i m l h1 k h2 hi=>k.box l (g l hi)) (fun i m l v h1 k h2 hi=>k.tok l v hi) (fun i r j Φ hi hj=>?_)
  by_cases hin:i=n
  ·subst hin
   simp only[upd_same,Option.some.injEq]at hi
   subst hi
   exact(Jcr (l:=[C.bar l']) (fun c hc=>by simp at hc; subst hc; rfl) hj).elim
  ·have hi':h.H i=some r:=by simpa [upd,hin] using hi
   refine⟨r,hi',hj,fun b' cs' ty' v q1 q2 q3=>⟨cs',ty',q1,?_,q3⟩,fun m k=>k⟩
   have hne:b'≠b:=fun he=>hin (hw.inj i n b (by simp[hi']) hnn (he ▸ q1) hρ)
   exact(setRow_other _ _ _ _ hne).trans q2
theorem JwR{Γ:Ctx}{h:Hp}{e:Env}(hw:WInv Γ h e){t u ty el:TypeId}(hel:el=UTY){i:TypeInfo}{sv xv:Value}{n len:Nat}{l ys:List UInt8}
  (hu:Γ.P.underlying t=some (.slice el)) (hi:Γ.P.info? el=some i) (hz:i.zero=some (.int .u8 0)) (hs1:i.size=1) (hb1:i.bytes=1) (hrow:h.H n=some [.bar l]) (hlen:len=l.length) (h1:RC e (.os n 1 0 len) sv)
  (hy:NewBytes Γ.P e.w t u el xv ys) (hfit:l.length+ys.length≤140737488355328) :
  ∃ r e',(Builtin.append_ #[t,u] ty #[sv,xv]).run Γ.P e.w=.ok r e'.w ∧
   WInv Γ { h with H:=upd (upd h.H n none) h.nx (some [.bar (l++ys)]),nx:=h.nx+1 } e'∧e.le e'∧RC e' (.os h.nx 1 0 (l.length+ys.length)) r:=by
 have grown:∀ (old:Nat),(Builtin.append_ #[t,u] ty #[sv,xv]).run Γ.P e.w=.ok (.slice (some ⟨e.w.heap.size,0,none⟩) (l.length+ys.length) (grownCap e.w (l.length+ys.length) old el))
    (e.w.drew.alloc (.cells ((KG l).toArray++(KG ys).toArray++Builtin.zeroCells (Value.int .u8 0).cells (grownCap e.w (l.length+ys.length) old el-(l.length+ys.length))) el)) →
   ∃ r e',(Builtin.append_ #[t,u] ty #[sv,xv]).run Γ.P e.w=.ok r e'.w ∧
    WInv Γ { h with H:=upd (upd h.H n none) h.nx (some [.bar (l++ys)]),nx:=h.nx+1 } e'∧e.le e'∧RC e' (.os h.nx 1 0 (l.length+ys.length)) r:=by
  intro old hrun
  have hge:=grownCap_ge e.w (l.length+ys.length) old el
  have hmx:=grownCap_le_maxLen e.w (l.length+ys.length) old el (by unfold maxLen; omega)
  have hz1:(Value.int IntKind.u8 0).cells.size=1:=rfl
  obtain⟨e',g1,g2,g3,g4,g5⟩:=(hw.dropBox n).newBar (el:=el) (hel:=hel) (cap:=grownCap e.w (l.length+ys.length) old el) (l:=l++ys)
   (zs:=(Builtin.zeroCells (Value.int .u8 0).cells (grownCap e.w (l.length+ys.length) old el-(l.length+ys.length))).toList)
   (cur:=(KG l).toArray++(KG ys).toArray++Builtin.zeroCells (Value.int .u8 0).cells (grownCap e.w (l.length+ys.length) old el-(l.length+ys.length)))
   (by simp[Jic]) (by simp only[Array.size_append,List.size_toArray,size_zeroCells,hz1,JaD]; omega) hmx
  refine⟨.slice (some ⟨e.w.heap.size,0,none⟩) (l.length+ys.length) (grownCap e.w (l.length+ys.length) old el),e',?_,g2,g3,.inr ⟨_,_,g4,g5,by simp,by simpa using hge⟩⟩
  rw[g1]; exact hrun
 have none0:ys=[]→∀ b m c,sv=.slice b m c→m≤c→(Builtin.append_ #[t,u] ty #[sv,xv]).run Γ.P e.w=.ok sv e.w:=by
  intro h0 b m c hv hmc
  subst h0
  have hl0:∀ w,(Builtin.lenOf xv).run Γ.P w=.ok 0 w:=hy.len
  have hf:(Builtin.firstCells 1 0 xv).run Γ.P e.w=.ok #[] e.w:=by have:=hy.fst; simpa [KG] using this
  rw[hv]
  rcases hy.ku with hD | ⟨q,hD⟩ <;> cases b <;> simp[Builtin.append_,run_underlying hu,run_underlying hD,sizeOf,typeInfo,hi,hs1,hl0,hmc,hf,storeCells]
 rcases h1 with⟨hl0,o,hv⟩|⟨b,cap,k1,k2,hv,k4⟩
 ·have e1:l=[]:=List.length_eq_zero_iff.1 (by omega)
  subst e1
  by_cases hys:ys=[]
  ·subst hys
   refine⟨sv,e,none0 rfl o 0 0 hv (Nat.le_refl _),?_,Env.le.refl e,.inl ⟨rfl,o,hv⟩⟩
   exact(hw.dropBox n).addNil (.inr rfl)
  ·refine grown 0 ?_
   have hpos:0<ys.length:=List.length_pos_iff.2 hys
   have:=JfN (P:=Γ.P) (w:=e.w) t u ty el i (.int .u8 0) hu hi hz hs1 o 0 0 [] rfl (fun _=>⟨rfl,rfl⟩) (fun _ _ _ _ h=>by simp at h) xv ys hy (by omega) (by simp at hfit ⊢; omega) (by rw[hb1]; exact growslice_fits (by omega) (by simp at hfit ⊢; omega))
   rw[hv]
   simpa [KG] using this
 ·simp only[Nat.zero_mul,Nat.sub_zero,Nat.zero_add]at hv k4
  subst hlen
  obtain⟨ob,q2,q3,q4,q5⟩:=hw.boxAny k1 _ hrow
  obtain⟨_,cur,fz,zs,rfl,m2,m3,m4,m5⟩:=q3
  rw[k2]at m5; simp at m5; subst m5
  have ren:∀ (e1:Env) (h':Hp),h'.H n=some [.bar (l++ys)]→h'.T=h.T→h'.nx=h.nx→upd (upd h'.H n none) h.nx (some [C.bar (l++ys)])=upd (upd h.H n none) h.nx (some [C.bar (l++ys)])→WInv Γ h' e1→e1.ρ n=some b→e1.τ n=some (.slice none cur.size cur.size) →
    ∃ e2,e2.w=e1.w∧WInv Γ { h with H:=upd (upd h.H n none) h.nx (some [.bar (l++ys)]),nx:=h.nx+1 } e2∧e1.le e2∧e2.ρ h.nx=some b∧e2.τ h.nx=some (.slice none cur.size cur.size):=by
   intro e1 h' hH hT hn hext hw1 hρ1 hτ1
   obtain⟨e2,g1,g2,g3,g4,g5⟩:=hw1.reName (row':=[.bar (l++ys)]) hH hρ1 hτ1 (fun e' ob hl hw' ht ho=>by
    obtain⟨j0,cs,fz2,zs2,rfl,j2,j3,j4,j5⟩:=ho
    rw[hτ1]at j5
    simp at j5
    exact⟨j0,cs,fz2,zs2,rfl,j2,j3,j4,by rw[ht,j5]⟩) (fun c hc=>by simp at hc; subst hc; rfl)
   refine⟨e2,g1,?_,g3,by rw[← hn]; exact g4,by rw[← hn]; exact g5⟩
   obtain⟨H',T',nx'⟩:=h'
   simp only at hT hn hext g2
   subst hT; subst hn
   rw[hext]at g2
   exact g2
  have hne2:n≠h.nx:=fun he=>by
   have:=(hw.fresh h.nx (Nat.le_refl _)).1
   rw[← he,hrow]at this; cases this
  by_cases hroom:l.length+ys.length≤cur.size
  ·have hrun:=Jjj (P:=Γ.P) (w:=e.w) t u ty el UTY i hu hi hs1 hy.ku b l.length cur.size ys.length cur fz q2 m2 xv (KG ys) hy.len (JaD ys) hy.fst (JsR ys) hroom hroom
   have ht:cur.toList.take l.length=KG l:=by rw[m3]; exact List.take_left' (JaD l)
   have hdr:cur.toList.drop (l.length+ys.length)=zs.drop ys.length:=by
    rw[m3,← JaD l,List.drop_append,List.drop_of_length_le (by omega),List.nil_append]; congr 1; omega
   rw[ht,hdr]at hrun
   have hcl:cur.size=l.length+zs.length:=by rw[← Array.length_toList,m3,List.length_append,JaD]
   obtain⟨w2,l2⟩:=hw.setBar (l':=l++ys) (vs:=KG l++KG ys++zs.drop ys.length) (zs:=zs.drop ys.length) hrow k1 q2 (by simp; omega) (by rw[Jic]) (by
    simp only[List.length_append,JaD,List.length_drop]; omega)
   obtain⟨e2,g1,g2,g3,g4,g5⟩:=ren { e with w:=e.w.setRow b (KG l++KG ys++zs.drop ys.length).toArray } { h with H:=upd h.H n (some [.bar (l++ys)]) } (by simp) rfl rfl (by
    funext q
    simp only[upd]
    split
    ·rfl
    ·split <;> rfl) w2 k1 k2
   refine⟨.slice (some ⟨b,0,none⟩) (l.length+ys.length) cur.size,e2,?_,g2,l2.trans g3,.inr ⟨b,cur.size,g4,g5,by simp,by simpa using hroom⟩⟩
   rw[hv,g1]; exact hrun
  ·refine grown cur.size ?_
   have holds:∀ a,(some (⟨b,0,none⟩:Addr))=some a→∀ j v,(KG l)[j]? = some v→e.w.cell? (a.add j)=some v:=by
    rintro a ha j v hj
    cases ha
    have hlt:j<(KG l).length:=(List.getElem?_eq_some_iff.1 hj).1
    have h9:cur.toList[j]? = some v:=by rw[m3,List.getElem?_append_left hlt]; exact hj
    have h9:e.w.cell? ⟨b,0+j,none⟩=some v:=by simp only[World.cell?,q2,Nat.zero_add]; simpa using h9
    simp only[Addr.add]
    split
    ·rename_i h0; simpa [h0] using h9
    ·exact h9
   have:=JfN (P:=Γ.P) (w:=e.w) t u ty el i (.int .u8 0) hu hi hz hs1 (some ⟨b,0,none⟩) l.length cur.size (KG l) (JaD l) (fun h=>by cases h) holds xv ys hy (by omega) (by omega) (by rw[hb1]; exact growslice_fits (by omega) (by simpa using hfit))
   rw[hv]
   exact this
theorem JuZ{P:Program}{t:TypeId}{i:TypeInfo}(h:tZ1 P t=true)(hi:P.info? t=some i):i.zero=some (.int .u8 0):=by
 unfold tZ1 at h
 simp only[hi,Option.bind_some]at h
 split at h
 ·rename_i n hz
  have:n=0:=by simpa using h
  rw[hz,this]
 ·cases h
theorem Jnt{Γ:Ctx}{σ:Nat→AV}{h:Hp}(o:Oper)(t u:TypeId)(s x:Operand)(ho:o.op=.call { callee:=.builtin .append,args:=#[s,x],argTypes:=#[t,u] }){n sz len:Nat}{ys:List UInt8}
  (hs:evA σ s=.c (.os n sz 0 len)) (hp:(Z5 Γ.P h t n sz len ys (h.H n)).pre)
  (hy:∀ (a:Act) (e:Env),Jc4 o σ a e→WInv Γ h e→NewBytes Γ.P e.w t u (Ju Γ.P t) (a.eval x) ys) :
  VR Γ o σ h (Z5 Γ.P h t n sz len ys (h.H n)).val (Z5 Γ.P h t n sz len ys (h.H n)).h:=by
 have hex:∀ (a:Act) (w w':World) (r:Value),(Builtin.append_ #[t,u] o.type #[a.eval s,a.eval x]).run Γ.P w=.ok r w'→(execOp a.eval o).run Γ.P w=.ok (.value r) w':=by
  intro a w w' r hr
  simp only[execOp,ho,resolve,invoke,builtin,Sem.run_bind,Sem.run_pure,Result.andThen_ok,List.map_toArray,List.map_cons,List.map_nil,hr]
 unfold Z5 at *
 split at hp
 case h_2=>exact hp.elim
 rename_i l hrow
 obtain⟨p1,p0,p2,p3,p4,p5,rfl,p6,p7⟩:=hp
 intro a e hop hw K Q hk
 have h1:=hop s (by simp[ho,Op.operands,Call.operands])
 rw[hs]at h1
 unfold JU at p1
 split at p1
 case h_2=>simp at p1
 rename_i el hu
 have he:Ju Γ.P t=el:=by simp[Ju,hu]
 rw[he]at p0 p2 p3 p4 p5
 simp only[Bool.and_eq_true]at p1
 obtain⟨i,hi⟩:=Option.isSome_iff_exists.1 p1.1
 have hyb:=hy a e hop hw
 rw[he]at hyb
 obtain⟨r,e',g1,g2,g3,g4⟩:=JwR (ty:=o.type) hw p0 hu hi (JuZ p5 hi) (by simpa [Jo,hi] using p4) (by simpa [Zc,hi] using p3) hrow p6 h1 hyb p7
 exact KT (hex _ _ _ _ g1) (hk _ e' g2 g3 g4)
theorem Jl5{P:Program}{w:World}{t el:TypeId}(hu:P.underlying t=some (.slice el)){bx ox cx:Nat}{c:UInt8}(hc:w.cell? ⟨bx,ox,none⟩=some (.int .u8 (c.toNat:Int))):
  NewBytes P w t t el (.slice (some ⟨bx,ox,none⟩) 1 cx) [c]:=by
 have hcell:∀ j v,[Value.int .u8 (c.toNat:Int)][j]? = some v→w.cell? ((⟨bx,ox,none⟩:Addr).add j)=some v:=fun j v hj=>by
  cases j with
  | zero=>simp at hj; subst hj; simpa [Addr.add] using hc
  | succ j=>simp at hj
 refine⟨.inr ⟨el,hu⟩,fun w=>rfl,?_,?_⟩
 ·exact run_firstCells_some (P:=P) w 1 1 ⟨bx,ox,none⟩ 1 cx [Value.int .u8 (c.toNat:Int)] rfl hcell
 ·exact run_firstCells_some (P:=P) w.drew 1 1 ⟨bx,ox,none⟩ 1 cx [Value.int .u8 (c.toNat:Int)] rfl (by simpa using hcell)
theorem Jlh{P:Program}{w:World}{t u el:TypeId}(hu:P.underlying u=some .string)(s:ByteArray):NewBytes P w t u el (.string s) (bl s):=by
 have e1:s.size=(bl s).length:=Jew s
 refine⟨.inl hu,fun w=>by simp[Builtin.lenOf,e1],?_,?_⟩
 ·have:=Lib.run_firstCells_string (P:=P) w 1 s
  rw[e1]at this
  exact this
 ·have:=Lib.run_firstCells_string (P:=P) w.drew 1 s
  rw[e1]at this
  exact this
theorem Jtt{e:Env}{a:AV}{v:Value}{p:Prop}{c:UInt8}(hr:RA e a v)(hb:JhL a=some (p,c))(hp:p):∃ bx ox cx,v=.slice (some ⟨bx,ox,none⟩) 1 cx∧e.w.cell? ⟨bx,ox,none⟩=some (.int .u8 (c.toNat:Int)):=by
 unfold JhL at hb
 split at hb
 ·rename_i n k
  simp only[Option.some.injEq,Prod.mk.injEq]at hb
  obtain⟨rfl,rfl⟩:=hb
  rcases hr.1.slInv with⟨h,_⟩|⟨vs,b,of,cap,hv,r4,r5,r6,r7⟩
  ·cases h
  ·refine⟨b,of,cap,by simpa using hv,?_⟩
   simp only[List.flatMap_cons,D.cells,List.flatMap_nil,List.append_nil]at r4
   cases r4 with
   | acons _ x _ vs h1 h2 =>
    have:=R1.vInv h1
    subst this
    have:=(r5 0 _ rfl).1
    rw[← hp]
    simpa using this
 ·cases hb
theorem Js2{Γ:Ctx}{σ:Nat→AV}{h:Hp}(o:Oper)(t:TypeId)(s x:Operand)(ho:o.op=.call { callee:=.builtin .append,args:=#[s,x],argTypes:=#[t,t] })(hp:(Jc9 Γ.P σ h t s x).pre):
  VR Γ o σ h (Jc9 Γ.P σ h t s x).val (Jc9 Γ.P σ h t s x).h:=by
 unfold Jc9 at *
 split at hp
 ·rename_i sz l k hs
  split at hp
  ·rename_i hty
   simp only[if_pos hty]
   refine JpS o t s x ho (fun a e hop=>?_) hp
   have h1:=hop s (by simp[ho,Op.operands,Call.operands])
   rw[hs]at h1
   obtain⟨h1,h2⟩:=h1
   exact⟨h1,h2.resolve_right fun h=>h.1 hty.2⟩
  ·rename_i hty
   simp only[if_neg hty]
   exact Juh o t s x ho hs hp
 ·rename_i sz l hs
  split at hp
  ·rename_i hty
   simp only[hty,if_true]
   exact JpS o t s x ho (fun a e hop=>by have h1:=hop s (by simp[ho,Op.operands,Call.operands]); rw[hs]at h1; exact h1) hp
  ·exact hp.elim
 ·rename_i n sz len hs
  split at hp
  case isFalse=>exact hp.elim
  rename_i hty
  simp only[hty,if_true]
  unfold JgG at *
  split at hp
  ·rename_i hxe
   refine Joi o t s x ho hs hp (fun a e hop hw h0=>by simp at h0) (fun a e hop hw h0 hz _ _=>?_)
   have h3:=hop x (by simp[ho,Op.operands,Call.operands])
   rw[hxe]at h3
   obtain⟨b,hv,hc,hS⟩:=h3
   subst hz
   refine⟨b,0,1,[],[.slice none 0 0],by simpa using hv,.anil,by simp,⟨⟨.slnil 0 _,.inl ⟨_,_,rfl⟩⟩,trivial⟩,by simp,fun j v hj=>?_⟩
   cases j with
   | zero=>simp at hj; subst hj; exact hc
   | succ j=>simp at hj
  ·rename_i hnl
   split at hp
   ·rename_i hbar
    rw[if_pos hbar]
    split at hp
    ·rename_i p c hb
     obtain⟨hpp,hp⟩:=hp
     simp only[hb]
     refine Jnt o t t s x ho hs hp fun a e hop hw=>?_
     obtain⟨bx,ox,cx,hv,hc⟩:=Jtt (hop x (by simp[ho,Op.operands,Call.operands])) hb hpp
     rw[hv]
     have hsl:JU Γ.P t=true:=by
      unfold Z5 at hp
      split at hp
      ·exact hp.1
      ·exact hp.elim
     unfold JU at hsl
     split at hsl
     ·rename_i el hu
      exact Jl5 (by rw[hu]; simp[Ju,hu]) hc
     ·cases hsl
    ·exact hp.elim
   ·rename_i hbar
    rw[if_neg hbar]
    split at hp
    ·rename_i p szy ys hys
     obtain⟨hpp,hp⟩:=hp
     simp only[hys]
     refine Joi o t s x ho hs hp (fun a e hop hw h0=>?_) (fun a e hop hw h0 hz _ _=>?_)
     ·rcases Jk3 hw (hop x (by simp[ho,Op.operands,Call.operands])) hys hpp with⟨_,h⟩|⟨bx,ox,cx,v1,hv,_⟩
      ·exact h
      ·have:ys.length=0:=by simpa using h0
       rw[this]at hv
       exact .inr ⟨_,_,hv⟩
     ·rcases Jk3 hw (hop x (by simp[ho,Op.operands,Call.operands])) hys hpp with⟨h,_⟩|⟨bx,ox,cx,v1,hv,r4,r6,r7,r5⟩
      ·subst h; simp at h0
      ·subst hz
       exact⟨bx,ox,cx,v1,[],by simpa using hv,r4,r6,trivial,by simpa using r7,fun j v hj=>r5 j v (by simpa using hj)⟩
    ·exact hp.elim
 ·exact hp.elim
def Jc5(P:Program)(σ:Nat→AV)(h:Hp)(t u:TypeId)(s x:Operand):AR :=
 match evA σ s,evA σ x with
 | .c (.os n sz 0 len),.c (.d (.v (.string b)))=>if JcG t=true then(let r:=Z5 P h t n sz len (bl b) (h.H n); ⟨P.underlying u=some .string∧r.pre,r.val,r.h⟩) else .bad h
 | _,_=>.bad h
theorem Jt1{Γ:Ctx}{σ:Nat→AV}{h:Hp}(o:Oper)(t u:TypeId)(s x:Operand)(ho:o.op=.call { callee:=.builtin .append,args:=#[s,x],argTypes:=#[t,u] })(hp:(Jc5 Γ.P σ h t u s x).pre):
  VR Γ o σ h (Jc5 Γ.P σ h t u s x).val (Jc5 Γ.P σ h t u s x).h:=by
 unfold Jc5 at *
 split at hp
 ·rename_i n sz len b hs hx
  split at hp
  case isFalse=>exact hp.elim
  rename_i hty
  rw[if_pos hty]
  obtain⟨p1,p2⟩:=hp
  refine Jnt o t u s x ho hs p2 fun a e hop hw=>?_
  have h2:=hop x (by simp[ho,Op.operands,Call.operands])
  rw[hx]at h2
  rw[R1.vInv h2]
  exact Jlh p1 b
 ·exact hp.elim
end Go.Proofs.Ytaofbminodhcnaa
namespace Go.Proofs.Ytaofbminodhcnaa
open Go.RowKit
def JeM(P:Program)(σ:Nat→AV)(h:Hp)(t:TypeId)(x:Operand)(f:Nat):AR :=
 match evA σ x with
 | .ag l=>let r:=KL P h (tFld P t f) l (tOff P t f); ⟨JI P t f=true∧r.pre,r.val,r.h⟩
 | .c (.d (.ag l))=>let r:=KL P h (tFld P t f) (l.map C.d) (tOff P t f); ⟨JI P t f=true∧r.pre,r.val,r.h⟩
 | _=>.bad h
theorem Jpl{P:Program}{h:Hp}{t:TypeId}{row:List C}{off:Nat}{e:Env}{vs:List Value}
  (hp:(KL P h t row off).pre) (hr:RCs e row vs):∃ v,(part t ⟨vs⟩ off).run P e.w=.ok v e.w∧RA e (KL P h t row off).val v:=by
 obtain⟨h1,h2,h3⟩:=hp
 have hi:=JfM P t e.w h1
 have hs:=J6 P t e.w h1
 simp only[KL]
 cases hag:tAgg P t with
 | true =>
  rw[hag]at hi
  refine⟨.agg ((vs.drop off).take (Jo P t)).toArray,?_,_,rfl,(hr.drop off).take _⟩
  unfold part
  simp only[Sem.run_bind,hi,Result.andThen_ok,if_true,hs,Sem.run_pure]
  congr 2
  apply Array.ext'
  simp[List.take_drop]
 | false =>
  rw[hag]at hi
  have hof:=h3 hag
  obtain⟨v,hv,hv'⟩:=hr.get off (row.getD off default) (by simp[List.getD_eq_getElem?_getD,List.getElem?_eq_getElem hof])
  refine⟨v,?_,hv'⟩
  have hv2:(⟨vs⟩:Array Value)[off]? = some v:=by simpa using hv
  unfold part
  simp only[Sem.run_bind,hi,Result.andThen_ok,Bool.false_eq_true,if_false,hv2,Sem.run_pure]
theorem JmE{P:Program}{t:TypeId}{f:Nat}(h:JI P t f=true)(vs:List Value)(w:World):
  (Instr.field t (.agg ⟨vs⟩) f).run P w=(part (tFld P t f) ⟨vs⟩ (tOff P t f)).run P w:=by
 unfold JI at h
 split at h
 ·rename_i fs hu
  simp only[Bool.and_eq_true,Option.isSome_iff_exists,bne_iff_ne,ne_eq]at h
  obtain⟨⟨⟨⟨fd,hf⟩,hz⟩,⟨d,hd⟩⟩,⟨i,hi⟩⟩:=h
  simp only[Instr.field,Sem.run_bind,run_underlying hu,Result.andThen_ok,hf,asAgg,Sem.run_pure,tFld,tOff,hu,Option.map_some,Option.getD_some]
 ·simp at h
theorem Jva{Γ:Ctx}{σ:Nat→AV}{h:Hp}(o:Oper)(t:TypeId)(x:Operand)(f:Nat)(ho:o.op=.field t x f)(hp:(JeM Γ.P σ h t x f).pre):
  VR Γ o σ h (JeM Γ.P σ h t x f).val (JeM Γ.P σ h t x f).h:=by
 unfold JeM at *
 split at hp
 ·rename_i l hx
  obtain⟨h1,h2⟩:=hp
  refine VR.of_run fun a e hop hw=>?_
  have h3:=hop x (by simp[ho,Op.operands])
  rw[hx]at h3
  obtain⟨vs,h4,h5⟩:=h3
  obtain⟨v,h6,h7⟩:=Jpl h2 h5
  refine⟨v,?_,h7⟩
  simp only[execOp,ho,h4]
  rw[Sem.run_bind,JmE h1,h6]; rfl
 ·rename_i l hx
  obtain⟨h1,h2⟩:=hp
  refine VR.of_run fun a e hop hw=>?_
  have h3:=hop x (by simp[ho,Op.operands])
  rw[hx]at h3
  obtain⟨vs,h4,h5⟩:=R1.agInv h3
  obtain⟨v,h6,h7⟩:=Jpl h2 (RCs.ofD h5)
  refine⟨v,?_,h7⟩
  simp only[execOp,ho,h4]
  rw[Sem.run_bind,JmE h1,h6]; rfl
 ·exact hp.elim
def Jec(P:Program)(σ:Nat→AV)(t:TypeId):List C→List (Nat×Operand)→Prop×List C
 | row,[]=>(True,row)
 | row,(i,x)::l =>
  let r:=Jec P σ t (row.take (tOff P t i)++sizeRow (tCS P (tFld P t i)) (evA σ x).row++row.drop (tOff P t i+(evA σ x).row.length)) l
  ((evA σ x).rowOk=true∧JI P t i=true∧(evA σ x).row.length=Jo P (tFld P t i)∧tOff P t i+(evA σ x).row.length≤row.length∧r.1,r.2)
def Jdr(P:Program)(t:TypeId):Bool:=match P.underlying t with | some (.struct fs)=>fs.toList.all fun f=>(P.info? f.type).isSome && (P.underlying f.type).isSome | some (.array _ e)=>(P.info? e).isSome && (P.underlying e).isSome | _=>false
def Jgg(P:Program)(σ:Nat→AV)(h:Hp)(t:TypeId)(parts:List (Nat×Operand)):AR :=
 ⟨Jdr P t=true∧tZok P t=true∧(Jec P σ t (sizeRow (tCS P t) ((tZ P t).map ofV)) parts).1,.ag (Jec P σ t (sizeRow (tCS P t) ((tZ P t).map ofV)) parts).2,h⟩
theorem JwK(place:Nat→Option (Nat×Nat))(i off size:Nat)(v:Value)(rest:List (Nat×Value))(cells:Array Value)(hp:place i=some (off,size))(hs:v.cells.size=size)(hl:off+size≤cells.size):
  ∃ cells',cells'.toList=cells.toList.take off++v.cells.toList++cells.toList.drop (off+v.cells.toList.length)∧Instr.fill place cells ((i,v)::rest)=Instr.fill place cells' rest:=by
 have hset:=JiT v.cells.toList 0 off cells (by simp[hs]; omega)
 simp only[Nat.add_zero]at hset
 have hfold:(v.cells.zipIdx.foldl (fun cs (x:Value×Nat)=>cs.setIfInBounds (off+x.2) x.1) cells)=((v.cells.toList.zipIdx 0).foldl (fun(cs:Array Value) p=>cs.setIfInBounds (off+p.2) p.1) cells):=by
  rw[← Array.foldl_toList,Array.toList_zipIdx]
 rw[← hfold]at hset
 refine⟨v.cells.zipIdx.foldl (fun cs (x:Value×Nat)=>cs.setIfInBounds (off+x.2) x.1) cells,hset,?_⟩
 conv=>lhs; unfold Instr.fill
 simp only[hp,hs,ne_eq,not_true_eq_false,decide_false,Bool.false_or,decide_eq_true_eq]
 rw[if_neg (by omega)]
theorem JmQ{P:Program}{σ:Nat→AV}{t:TypeId}{e:Env}{a:Act}{fs:Array Field}(hu:P.underlying t=some (.struct fs)){places:Array (Nat×Nat)}
  (hpl:∀ i:Nat,places[i]? = (fs[i]?).map fun(f:Field)=>(f.offset,Jo P f.type)):∀ (parts:List (Nat×Operand)) (row:List C) (cells:Array Value),
  (∀ p∈parts,RA e (evA σ p.2) (a.eval p.2))→(Jec P σ t row parts).1→RCs e row cells.toList →
  ∃ out,Instr.fill (places[·]?) cells (parts.map fun p=>(p.1,a.eval p.2))=some out∧RCs e (Jec P σ t row parts).2 out.toList
 | [],row,cells,_,_,h=>⟨cells,rfl,h⟩
 | (i,x)::l,row,cells,hop,hp,hr=>by
  obtain⟨p1,p2,p3,p4,p5⟩:=hp
  have hx:=(hop (i,x) (by simp)).row p1
  have hl1:=hx.length
  have hl2:=hr.length
  have hplace:places[i]? = some (tOff P t i,Jo P (tFld P t i)):=by
   unfold JI at p2
   rw[hu]at p2
   simp only[Bool.and_eq_true,Option.isSome_iff_exists]at p2
   obtain⟨⟨⟨⟨fd,hf⟩,_⟩,_⟩,_⟩:=p2
   rw[hpl]
   simp[tOff,tFld,hu,hf]
  have hsz:(a.eval x).cells.size=Jo P (tFld P t i):=by rw[← p3,← hl1]; simp
  obtain⟨cells',h1,h2⟩:=JwK (places[·]?) i (tOff P t i) (Jo P (tFld P t i)) (a.eval x) (l.map fun p=>(p.1,a.eval p.2)) cells hplace hsz (by simp at hl1 hl2; omega)
  have hr':RCs e (row.take (tOff P t i)++sizeRow (tCS P (tFld P t i)) (evA σ x).row++row.drop (tOff P t i+(evA σ x).row.length)) cells'.toList:=by
   rw[h1,hl1]
   exact((hr.take _).append (hx.sizeRow _)).append (hr.drop _)
  obtain⟨out,h3,h4⟩:=JmQ hu hpl l _ cells' (fun p hp=>hop p (by simp[hp])) p5 hr'
  exact⟨out,by rw[List.map_cons,h2]; exact h3,h4⟩
theorem Jj7{P:Program}(w:World):∀ (l:List Field),(l.all fun f=>(P.info? f.type).isSome && (P.underlying f.type).isSome)=true →
  (l.mapM fun f=>do pure (f.offset,← sizeOf f.type):Sem (List (Nat×Nat))).run P w=.ok (l.map fun f=>(f.offset,Jo P f.type)) w
 | [],_=>by simp
 | f::l,h=>by
  simp only[List.all_cons,Bool.and_eq_true]at h
  have hs:=J6 P f.type w (by simp[JQ,h.1])
  have ih:=Jj7 (P:=P) w l h.2
  rw[List.mapM_cons]
  simp only[Sem.run_bind,hs,Result.andThen_ok,Sem.run_pure,ih,List.map_cons]
theorem Jvl{Γ:Ctx}{σ:Nat→AV}{h:Hp}(o:Oper)(t:TypeId)(parts:Array (Nat×Operand))(ho:o.op=.build t parts)(hp:(Jgg Γ.P σ h t parts.toList).pre):
  VR Γ o σ h (Jgg Γ.P σ h t parts.toList).val (Jgg Γ.P σ h t parts.toList).h:=by
 obtain⟨p1,p2,p3⟩:=hp
 refine VR.of_run fun a e hop hw=>?_
 unfold Jdr at p1
 split at p1
 ·rename_i fs hu
  obtain⟨z,hz,hz2,_⟩:=XR p2 e.w
  have hm:=Jj7 e.w fs.toList p1
  obtain⟨out,h1,h2⟩:=JmQ (a:=a) (e:=e) hu (places:=(fs.toList.map fun f=>(f.offset,Jo Γ.P f.type)).toArray) (fun i=>by simp) parts.toList (sizeRow (tCS Γ.P t) ((tZ Γ.P t).map ofV)) z.cells
   (fun p hp=>hop p.2 (by simp only[ho,Op.operands,List.mem_toArray,List.mem_map]; exact⟨p,hp,rfl⟩)) p3 (by rw[hz2]; exact RCs.sizeRow _ (RCs.ofV _ _))
  refine⟨.agg out,?_,out.toList,rfl,h2⟩
  have hmap:(parts.map fun(x:Nat×Operand)=>(x.1,a.eval x.2)).toList=parts.toList.map fun p=>(p.1,a.eval p.2):=by simp
  have hma:(fs.mapM fun f=>do pure (f.offset,← sizeOf f.type):Sem (Array (Nat×Nat))).run Γ.P e.w=.ok (fs.toList.map fun f=>(f.offset,Jo Γ.P f.type)).toArray e.w:=by
   rw[Array.mapM_eq_mapM_toList,Sem.run_map,hm]; rfl
  simp only[execOp,ho,Instr.build,Sem.run_bind,hz,Result.andThen_ok,run_underlying hu,hma,hmap,h1,Sem.run_pure]
 ·rename_i m el hu
  obtain⟨z,hz,hz2,_⟩:=XR p2 e.w
  simp only[Bool.and_eq_true]at p1
  have hs:=J6 Γ.P el e.w (by simp[JQ,p1])
  have hp0:parts.toList=[]:=by
   cases hp:parts.toList with
   | nil=>rfl
   | cons q l =>
    rw[hp]at p3
    have:=p3.2.1
    simp[JI,hu]at this
  rw[hp0]
  refine⟨.agg z.cells,?_,z.cells.toList,rfl,by rw[hz2]; exact RCs.sizeRow _ (RCs.ofV _ _)⟩
  have hmap:(parts.map fun(x:Nat×Operand)=>(x.1,a.eval x.2)).toList=[]:=by simp[hp0]
  simp only[execOp,ho,Instr.build,Sem.run_bind,hz,Result.andThen_ok,run_underlying hu,hs,hmap,Sem.run_pure,Instr.fill]
 ·simp at p1
def u8s(l:List UInt8):List D:=l.map fun b=>.v (.int .u8 b.toNat)
def unU8:D→UInt8
 | .v (.int _ n)=>UInt8.ofNat n.toNat
 | _=>0
theorem JvP(l:List UInt8):(u8s l).map unU8=l:=by
 induction l with
 | nil=>rfl
 | cons b l ih=>simp only[u8s,List.map_cons,unU8]at ih ⊢; rw[ih]; simp
def JcN(P:Program)(σ:Nat→AV)(h:Hp)(src dst:TypeId)(x:Operand):AR :=
 match evA σ x with
 | .c (.d (.v (.int _ n)))=>match P.underlying src,P.underlying dst with
  | some (.int _),some (.int k)=>⟨True,.c (.d (.v (.int k (k.wrap n)))),h⟩
  | _,_=>.bad h
 | .c (.d (.v (.string s)))=>⟨P.underlying src=some .string∧JU P dst=true∧P.underlying (Ju P dst)=some (.int .u8),.c (.d (.sl 1 (u8s (bl s)))),h⟩
 | y=>match slD y with
  | some (_,l)=>⟨JU P src=true∧P.underlying (Ju P src)=some (.int .u8)∧P.underlying dst=some .string∧∃ bs,l=u8s bs,.c (.d (.v (str (l.map unU8)))),h⟩
  | none=>.bad h
theorem Rn.u8{w:World}{S:Nat→Nat→Prop}:∀ {bs:List UInt8} {vs:List Value},Rn w S ((u8s bs).flatMap D.cells) vs→vs=(bs.map fun b=>(b.toNat:Int)).map (Value.int .u8)
 | [],_,h=>by cases h; rfl
 | b::bs,_,h=>by
  simp only[u8s,List.map_cons,List.flatMap_cons,D.cells,List.singleton_append]at h
  cases h with
  | acons _ x _ vs h1 h2 =>
   have:=R1.vInv h1
   subst this
   rw[Rn.u8 (bs:=bs) h2]; rfl
theorem JsL{Γ:Ctx}{σ:Nat→AV}{h:Hp}(o:Oper)(src dst:TypeId)(x:Operand)(ho:o.op=.convert src dst x)(hp:(JcN Γ.P σ h src dst x).pre):
  VR Γ o σ h (JcN Γ.P σ h src dst x).val (JcN Γ.P σ h src dst x).h:=by
 unfold JcN at *
 split at hp
 ·rename_i k n hx
  split at hp
  ·rename_i k1 k2 h1 h2
   refine VR.of_run fun a e hop hw=>⟨_,?_,.v _⟩
   have h3:=hop x (by simp[ho,Op.operands])
   rw[hx]at h3
   have h3:=R1.vInv h3
   simp[execOp,ho,h3,convert,run_underlying h1,run_underlying h2,Conv.intToInt]
  ·exact hp.elim
 ·rename_i s hx
  obtain⟨p1,p2,p3⟩:=hp
  intro a e hop hw K Q hk
  have h3:=hop x (by simp[ho,Op.operands])
  rw[hx]at h3
  have h3:=R1.vInv h3
  unfold JU at p2
  split at p2
  case h_2=>simp at p2
  rename_i el hu
  have he:Ju Γ.P dst=el:=by simp[Ju,hu]
  rw[he]at p3
  have hrun:=Lib.run_convert_string_bytes (P:=Γ.P) e.w src dst el s p1 hu p3
  have hg:Grows e.w (Lib.bytesWorld e.w el s):=⟨by unfold Lib.bytesWorld World.freeze; split <;> rfl,by unfold Lib.bytesWorld World.freeze; split <;> rfl,by unfold Lib.bytesWorld World.freeze; split <;> rfl,by rw[Lib.bytesWorld_size]; omega,fun k hk=>Lib.bytesWorld_at_old e.w el s k hk⟩
  obtain⟨w1,l1⟩:=hw.quiet hg
  have hlen:(u8s (bl s)).length=s.size:=by simp[u8s,Jew]
  have hfl:(u8s (bl s)).flatMap D.cells=u8s (bl s):=by
   generalize bl s=q
   induction q with
   | nil=>rfl
   | cons b q ih=>simp only[u8s,List.map_cons,List.flatMap_cons,D.cells]at ih ⊢; rw[ih]; rfl
  have hrn:∀ q:List UInt8,Rn (Lib.bytesWorld e.w el s) e.S (u8s q) (KG q):=fun q=>by
   induction q with
   | nil=>exact .anil
   | cons b q ih=>exact .acons _ _ _ _ (.v _) ih
  have hR:R1 (Lib.bytesWorld e.w el s) e.S (.sl 1 (u8s (bl s))) (.slice (some ⟨e.w.heap.size,0,none⟩) s.size (grownCap e.w s.size 0 el)):=by
   have:=RD.sl (w:=Lib.bytesWorld e.w el s) (S:=e.S) 1 (u8s (bl s)) (KG (bl s)) e.w.heap.size 0 (grownCap e.w s.size 0 el) (by rw[hfl]; exact hrn _) (fun i x hx=>by
    refine⟨?_,fun hS=>by have:=hw.sdom _ _ hS; omega⟩
    have hi:i<(bl s).length:=by have:=(List.getElem?_eq_some_iff.1 hx).1; simpa [KG] using this
    rw[Nat.zero_add,Lib.bytesWorld_cell e.w el s i (by rw[Jew]; exact hi),← hx]
    show _=(KG (bl s))[i]?
    simp only[KG,List.getElem?_map,List.getElem?_eq_getElem hi,Option.map_some]
    rw[show s.data.toList=bl s from rfl,List.getD_eq_getElem?_getD,List.getElem?_eq_getElem hi]
    rfl) (fun d hd=>by
    simp only[u8s,List.mem_map]at hd
    obtain⟨_,_,rfl⟩:=hd
    rfl) (by rw[hlen]; exact grownCap_ge _ _ _ _)
   rwa [hlen]at this
  refine KT (v:=.slice (some ⟨e.w.heap.size,0,none⟩) s.size (grownCap e.w s.size 0 el)) (w':=Lib.bytesWorld e.w el s) ?_ (hk _ _ w1 l1 hR)
  simp only[execOp,ho,h3]
  rw[Sem.run_bind,hrun]
  rfl
 ·rename_i y hy
  split at hp
  ·rename_i sz l hs
   obtain⟨p1,p2,p3,bs,rfl⟩:=hp
   refine VR.of_run fun a e hop hw=>⟨_,?_,.v _⟩
   have h3:=(hop x (by simp[ho,Op.operands])).slD hs
   unfold JU at p1
   split at p1
   ·rename_i el hu
    have he:Ju Γ.P src=el:=by simp[Ju,hu]
    rw[he]at p2
    rw[JvP]
    rcases h3.slInv with⟨hl,o',hv⟩|⟨vs,b,of,cap,hv,r4,r5,r6,r7⟩
    ·have hbs:bs=[]:=by cases bs with | nil=>rfl | cons _ _=>simp[u8s]at hl
     subst hbs
     have:(convert src dst (.slice o' 0 0)).run Γ.P e.w=.ok (.string ByteArray.empty) e.w:=by
      cases o' with
      | none=>exact run_convert_bytes_nil e.w src el hu p2 0 0 dst p3
      | some a'=>rw[run_convert_bytes_string e.w src dst el _ 0 0 hu p2 p3]; simp[Conv.bytesToString,loadCells,loadCellsFrom]
     simp only[execOp,ho,hv]
     rw[Sem.run_bind,this]
     rfl
    ·have hvs:=Rn.u8 r4
     have hlen:(bs.map fun b=>(b.toNat:Int)).length=(u8s bs).length:=by simp[u8s]
     have:=run_convert_bytes_arg e.w src el hu p2 b of (u8s bs).length cap (bs.map fun b=>(b.toNat:Int)) hlen (fun i hi=>by
      have hi':i<bs.length:=by simpa [u8s] using hi
      have:=(r5 i (.int .u8 (bs[i].toNat:Int)) (by rw[hvs]; simp[hi'])).1
      rw[this]
      simp[hi']) dst p3
     simp only[execOp,ho,hv]
     rw[Sem.run_bind,this]
     have hs:strOfNums (bs.map fun b=>(b.toNat:Int))=⟨bs.toArray⟩:=by
      simp[strOfNums,Function.comp_def]
     rw[hs]
     rfl
   ·simp at p1
  ·exact hp.elim
def ZC(σ:Nat→AV):List Operand→Option (List Nat)
 | []=>some []
 | x::l=>match evA σ x,ZC σ l with
  | .c (.pt n 0),some ns=>some (n::ns)
  | _,_=>none
def X9(σ:Nat→AV)(h:Hp)(fn:Fn)(first captured:List Operand):AR :=
 match fn,first,captured with
 | .func f,[],[]=>⟨True,.c (.d (.v (.func (.func f) #[] #[]))),h⟩
 | .func f,[],xs=>match ZC σ xs with
  | some ns=>⟨True,.c (.clo f ns),h⟩
  | none=>.bad h
 | _,_,_=>.bad h
theorem Jhb{σ:Nat→AV}{a:Act}{e:Env}:∀ {l:List Operand} {ns:List Nat},(∀ x∈l,RA e (evA σ x) (a.eval x))→ZC σ l=some ns→RP e ns (l.map a.eval)
 | [],ns,_,h=>by simp[ZC]at h; subst h; trivial
 | x::l,ns,ho,h=>by
  simp only[ZC]at h
  split at h
  ·rename_i n ns' hx hns
   simp at h; subst h
   have h1:=ho x (by simp)
   rw[hx]at h1
   exact⟨h1,Jhb (fun y hy=>ho y (by simp[hy])) hns⟩
  ·cases h
theorem Jqp{Γ:Ctx}{σ:Nat→AV}{h:Hp}(o:Oper)(fn:Fn)(first captured:Array Operand)(ho:o.op=.makeFunc fn first captured)(hp:(X9 σ h fn first.toList captured.toList).pre):
  VR Γ o σ h (X9 σ h fn first.toList captured.toList).val (X9 σ h fn first.toList captured.toList).h:=by
 have hmap:∀ (a:Act) (xs:Array Operand),xs.map a.eval=(xs.toList.map a.eval).toArray:=fun a xs=>by apply Array.ext'; simp
 unfold X9 at *
 split at hp
 ·rename_i f h1 h2
  refine VR.of_run fun a e hop hw=>⟨.func (.func f) #[] #[],?_,.v _⟩
  simp[execOp,ho,Instr.makeFunc,hmap,h1,h2]
 ·rename_i f h1 h2
  split at hp
  ·rename_i ns hns
   refine VR.of_run fun a e hop hw=>⟨.func (.func f) #[] (captured.toList.map a.eval).toArray,?_,_,Jhb (fun x hx=>hop x (by simp only[ho,Op.operands,Array.mem_append]; right; simpa using hx)) hns,rfl⟩
   simp[execOp,ho,Instr.makeFunc,hmap,h1]
  ·exact hp.elim
 ·exact hp.elim
def Jdq(P:Program)(t:TypeId):Bool:=match P.underlying t with | some (.interface _)=>false | some _=>true | none=>false
def Ja6(P:Program)(σ:Nat→AV)(h:Hp)(t:TypeId)(x:Operand):AR :=
 match evA σ x with
 | .c (.d (.v v))=>⟨Jdq P t=true,.c (.d (.v (.iface t v))),h⟩
 | a=>match agV a with
  | some vs=>⟨Jdq P t=true,.c (.d (.v (.iface t (.agg ⟨vs⟩)))),h⟩
  | none=>.bad h
theorem JfU{P:Program}{t:TypeId}(h:Jdq P t=true)(v:Value)(w:World):(Instr.makeInterface t v).run P w=.ok (.iface t v) w:=by
 unfold Jdq at h
 split at h
 ·cases h
 ·rename_i D hD hu
  unfold Instr.makeInterface
  simp only[Sem.run_bind,run_underlying hu,Result.andThen_ok]
  cases D <;> first | rfl | exact absurd rfl (hD _)
 ·cases h
theorem Jpa{Γ:Ctx}{σ:Nat→AV}{h:Hp}(o:Oper)(t:TypeId)(x:Operand)(ho:o.op=.makeInterface t x)(hp:(Ja6 Γ.P σ h t x).pre):
  VR Γ o σ h (Ja6 Γ.P σ h t x).val (Ja6 Γ.P σ h t x).h:=by
 unfold Ja6 at *
 split at hp
 ·rename_i v hx
  refine VR.of_run fun a e hop hw=>⟨_,?_,.v _⟩
  have h1:=hop x (by simp[ho,Op.operands])
  rw[hx]at h1
  have h1:=R1.vInv h1
  simp only[execOp,ho,h1]
  rw[Sem.run_bind,JfU hp]; rfl
 ·split at hp
  ·rename_i vs hv
   refine VR.of_run fun a e hop hw=>⟨_,?_,.v _⟩
   have h1:=Jhp hv (hop x (by simp[ho,Op.operands]))
   simp only[execOp,ho,h1]
   rw[Sem.run_bind,JfU hp]; rfl
  ·exact hp.elim
def XO(P:Program)(σ:Nat→AV)(h:Hp)(x:Operand)(t:TypeId):Bool→AR
 | false=>.bad h
 | true=>match evA σ x with
  | .c (.d (.v (.iface u (.agg ⟨vs⟩))))=>⟨Jdq P t=true∧u=t,.tu [(true,vs.map fun v=>.d (.v v)),(false,[.d (.v (.bool true))])],h⟩
  | _=>.bad h
theorem RCs.vs{e:Env}:∀ (vs:List Value),RCs e (vs.map fun v=>C.d (.v v)) vs
 | []=>trivial
 | v::l=>⟨.v v,RCs.vs l⟩
theorem JoC{Γ:Ctx}{σ:Nat→AV}{h:Hp}(o:Oper)(x:Operand)(xt t:TypeId)(comma:Bool)(ho:o.op=.typeAssert x xt t comma)(hp:(XO Γ.P σ h x t comma).pre):
  VR Γ o σ h (XO Γ.P σ h x t comma).val (XO Γ.P σ h x t comma).h:=by
 cases comma with
 | false=>exact hp.elim
 | true =>
 unfold XO at *
 dsimp only at hp ⊢
 split at hp
 ·rename_i u vs hx
  obtain⟨hp,rfl⟩:=hp
  refine VR.of_run fun a e hop hw=>⟨.tuple ⟨[.agg ⟨vs⟩,.bool true]⟩,?_,_,rfl,⟨vs,rfl,RCs.vs vs⟩,⟨_,rfl,.v _⟩,trivial⟩
  have h1:=hop x (by simp[ho,Op.operands])
  rw[hx]at h1
  have h1:=R1.vInv h1
  simp only[execOp,ho,h1]
  unfold Jdq at hp
  split at hp
  ·cases hp
  ·rename_i D hD hu
   unfold Instr.typeAssert
   simp only[Sem.run_bind,run_underlying hu,Result.andThen_ok]
   cases D <;> first | (exact absurd rfl (hD _)) | (simp; rfl) | rfl
  ·cases hp
 ·exact hp.elim
end Go.Proofs.Ytaofbminodhcnaa
