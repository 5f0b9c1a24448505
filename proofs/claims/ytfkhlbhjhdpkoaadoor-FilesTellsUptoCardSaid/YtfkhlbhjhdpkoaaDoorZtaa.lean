/- Pure data,and what it means that a value of memory represents data. -/
import Derived.WalkKit
import Derived.Orders
import Derived.Laws.StructEq
set_option linter.unusedVariables false
set_option linter.unusedSimpArgs false
namespace Go.Proofs.YtfkhlbhjhdpkoaaDoor
open Go.RowKit
inductive D where
 | v (x:Value)
 | ag (l:List D)
 | tu (l:List D)
 | sl (sz:Nat) (l:List D)
 | ne (b:Bool)
 deriving Inhabited
def D.cells:D→List D
 | .ag l=>l
 | x=>[x]
inductive It where
 | one (d:D) (v:Value)
 | all (l:List D) (vs:List Value)
inductive RD (w:World) (S:Nat→Nat→Prop):It→Prop where
 | v (x:Value):RD w S (.one (.v x) x)
 | ag (l:List D) (vs:List Value):RD w S (.all l vs)→RD w S (.one (.ag l) (.agg ⟨vs⟩))
 | tu (l:List D) (vs:List Value):RD w S (.all l vs)→RD w S (.one (.tu l) (.tuple ⟨vs⟩))
 | slnil (sz:Nat) (o:Option Addr):RD w S (.one (.sl sz []) (.slice o 0 0))
 | sl (sz:Nat) (l:List D) (vs:List Value) (b o cap:Nat):RD w S (.all (l.flatMap D.cells) vs) →
   (∀ i x,vs[i]? = some x→w.cell? ⟨b,o+i,none⟩=some x∧¬ S b (o+i))→(∀ d∈l,d.cells.length=sz)→l.length≤cap →
   RD w S (.one (.sl sz l) (.slice (some ⟨b,o,none⟩) l.length cap))
 | ne0:RD w S (.one (.ne true) .nilIface)
 | ne1 (t:TypeId) (p:Value):RD w S (.one (.ne false) (.iface t p))
 | anil:RD w S (.all [] [])
 | acons (d:D) (x:Value) (l:List D) (vs:List Value):RD w S (.one d x)→RD w S (.all l vs)→RD w S (.all (d::l) (x::vs))
abbrev R1(w:World)(S:Nat→Nat→Prop)(d:D)(x:Value):Prop:=RD w S (.one d x)
abbrev Rn(w:World)(S:Nat→Nat→Prop)(l:List D)(vs:List Value):Prop:=RD w S (.all l vs)
def Keep(w:World)(S:Nat→Nat→Prop)(w':World)(S':Nat→Nat→Prop):Prop :=
 ∀ b o x,w.cell? ⟨b,o,none⟩=some x→¬ S b o→w'.cell? ⟨b,o,none⟩=some x∧¬ S' b o
theorem Keep.refl(w:World)(S:Nat→Nat→Prop):Keep w S w S:=fun _ _ _ h g=>⟨h,g⟩
theorem Keep.trans{w w1 w2:World}{S S1 S2:Nat→Nat→Prop}(h:Keep w S w1 S1)(k:Keep w1 S1 w2 S2):Keep w S w2 S2 :=
 fun b o x hc hs=>let ⟨h1,h2⟩:=h b o x hc hs; k b o x h1 h2
def Jd9:List (Nat×(Array Value→Prop)):=[(2,fun cs=>∃ m,cs[0]? = some (.int .i64 m))]
def GW(w:World)(S:Nat→Nat→Prop):Prop:=∀ q∈Jd9,∃ cs ty,w.heap[q.1]? = some (.cells cs ty (0,0))∧q.2 cs∧0<cs.size∧∀ o,o<cs.size→¬ S q.1 o
theorem RD.mono{w w':World}{S S':Nat→Nat→Prop}(hk:Keep w S w' S'){it:It}(h:RD w S it):RD w' S' it:=by
 induction h with
 | v x=>exact .v x
 | ag l vs _ ih=>exact .ag l vs ih
 | tu l vs _ ih=>exact .tu l vs ih
 | slnil sz o=>exact .slnil sz o
 | sl sz l vs b o cap _ hc hs hl ih=>exact .sl sz l vs b o cap ih (fun i x hx=>let ⟨h1,h2⟩:=hc i x hx; hk _ _ _ h1 h2) hs hl
 | ne0=>exact .ne0
 | ne1 t p=>exact .ne1 t p
 | anil=>exact .anil
 | acons d x l vs _ _ i1 i2=>exact .acons d x l vs i1 i2
theorem Rn.length{w:World}{S:Nat→Nat→Prop}:∀ {l:List D} {vs:List Value},Rn w S l vs→vs.length=l.length
 | [],_,h=>by cases h; rfl
 | _::_,_,h=>by cases h with | acons _ _ _ _ _ h2=>simp[Rn.length h2]
theorem Rn.append{w:World}{S:Nat→Nat→Prop}:∀ {l m:List D} {vs us:List Value},Rn w S l vs→Rn w S m us→Rn w S (l++m) (vs++us)
 | [],_,_,_,h,k=>by cases h; exact k
 | _::_,_,_,_,h,k=>by cases h with | acons _ _ _ _ h1 h2=>exact .acons _ _ _ _ h1 (Rn.append h2 k)
theorem Rn.get{w:World}{S:Nat→Nat→Prop}:∀ {l:List D} {vs:List Value},Rn w S l vs→∀ (i:Nat) (d:D),l[i]? = some d→∃ x,vs[i]? = some x∧R1 w S d x
 | [],_,_,i,d,h=>by simp at h
 | _::_,_,h,i,d,hi=>by
  cases h with
  | acons _ _ _ _ h1 h2 =>
   cases i with
   | zero=>simp at hi; subst hi; exact⟨_,rfl,h1⟩
   | succ i=>simpa using Rn.get h2 i d (by simpa using hi)
theorem Rn.drop{w:World}{S:Nat→Nat→Prop}:∀ {l:List D} {vs:List Value} (n:Nat),Rn w S l vs→Rn w S (l.drop n) (vs.drop n)
 | _,_,0,h=>h
 | [],_,n+1,h=>by cases h; exact .anil
 | _::_,_,n+1,h=>by cases h with | acons _ _ _ _ _ h2=>exact Rn.drop n h2
theorem Rn.take{w:World}{S:Nat→Nat→Prop}:∀ {l:List D} {vs:List Value} (n:Nat),Rn w S l vs→Rn w S (l.take n) (vs.take n)
 | _,_,0,h=>.anil
 | [],_,n+1,h=>by cases h; exact .anil
 | _::_,_,n+1,h=>by cases h with | acons _ _ _ _ h1 h2=>exact .acons _ _ _ _ h1 (Rn.take n h2)
theorem Rn.split{w:World}{S:Nat→Nat→Prop}{l m:List D}{vs:List Value}(h:Rn w S (l++m) vs):∃ us ts,vs=us++ts∧Rn w S l us∧Rn w S m ts:=by
 refine⟨vs.take l.length,vs.drop l.length,(List.take_append_drop _ _).symm,?_,?_⟩
 ·have:=Rn.take l.length h; simpa using this
 ·have:=Rn.drop l.length h; simpa using this
theorem Kz{sz:Nat}:∀ {l:List D},(∀ d∈l,d.cells.length=sz)→(l.flatMap D.cells).length=l.length * sz
 | [],_=>by simp
 | d::l,h=>by
  have h1:=h d (by simp)
  have h2:=Kz (l:=l) (fun d hd=>h d (by simp[hd]))
  simp[List.flatMap_cons,h1,h2,Nat.add_mul]; omega
theorem Jd8{sz:Nat}:∀ {l:List D},(∀ d∈l,d.cells.length=sz)→∀ (i:Nat) (d:D),l[i]? = some d→((l.flatMap D.cells).drop (i * sz)).take sz=d.cells
 | [],_,i,d,h=>by simp at h
 | e::l,hs,i,d,h=>by
  have h1:=hs e (by simp)
  cases i with
  | zero=>simp at h; subst h; simp[List.flatMap_cons,h1]
  | succ i =>
   have:=Jd8 (l:=l) (fun d hd=>hs d (by simp[hd])) i d (by simpa using h)
   rw[List.flatMap_cons,show(i+1) * sz=e.cells.length+i * sz by rw[h1,Nat.add_mul]; omega,List.drop_append]
   rw[List.drop_of_length_le (by omega)]; simpa using this
end Go.Proofs.YtfkhlbhjhdpkoaaDoor
namespace Go.Proofs.YtfkhlbhjhdpkoaaDoor
open Go.RowKit
inductive C where
 | d (x:D)
 | sl (sz:Nat) (l:List D) (k:Nat)
 | pt (n off:Nat)
 | pp (l:List D)
 | ex (x:Value) (d:D)
 | top
 | arr (sz:Nat) (l:List D)
 | os (n sz off len:Nat)
 | pa (n sz i off:Nat)
 | nl
 | fs (sz:Nat) (l:List D)
 | clo (f:Nat) (ns:List Nat)
 | op (p:Bool) (n off:Nat)
 | bar (l:List UInt8)
 deriving Inhabited
inductive AV where
 | c (x:C)
 | ag (l:List C)
 | tu (l:List (Bool×List C))
 | df (l:List (Nat×List C))
 deriving Inhabited
def AV.cells:AV→List C
 | .c x=>[x]
 | .ag l=>l
 | .tu _=>[]
 | .df _=>[]
def AV.comp:Bool×List C→AV
 | (true,l)=>.ag l
 | (false,[x])=>.c x
 | _=>.c .top
structure Env where
 w:World
 S:Nat→Nat→Prop
 ρ:Nat→Option Nat
 τ:Nat→Option Value
structure Env.le (e e':Env):Prop where
 keep:Keep e.w e.S e'.w e'.S
 names:∀ n b,e.ρ n=some b→e'.ρ n=some b
 toks:∀ n b,e.τ n=some b→e'.τ n=some b
theorem Env.le.refl(e:Env):e.le e:=⟨Keep.refl _ _,fun _ _ h=>h,fun _ _ h=>h⟩
theorem Env.le.trans{a b c:Env}(h:a.le b)(k:b.le c):a.le c :=
 ⟨h.keep.trans k.keep,fun _ _ x=>k.names _ _ (h.names _ _ x),fun _ _ x=>k.toks _ _ (h.toks _ _ x)⟩
def KX(v:Value):Prop:=∃ a n,v=.slice a n n
def RP(e:Env):List Nat→List Value→Prop
 | [],[]=>True
 | n::ns,v::vs=>(∃ b,e.ρ n=some b∧v=.pointer (some ⟨b,0,none⟩))∧RP e ns vs
 | _,_=>False
theorem RP.mono{e e':Env}(h:e.le e'):∀ {ns:List Nat} {vs:List Value},RP e ns vs→RP e' ns vs
 | [],[],_=>trivial
 | _::_,_::_,⟨⟨b,h1,h2⟩,h3⟩=>⟨⟨b,h.names _ _ h1,h2⟩,RP.mono h h3⟩
theorem RP.length{e:Env}:∀ {ns:List Nat} {vs:List Value},RP e ns vs→vs.length=ns.length
 | [],[],_=>rfl
 | _::_,_::_,⟨_,h⟩=>by simp[RP.length h]
def tyV(t:TypeId):Value:=.int .i64 (t:Int)
def BTY:TypeId:=64
def UTY:TypeId:=5
def RC(e:Env):C→Value→Prop
 | .d x,v=>R1 e.w e.S x v
 | .sl sz l k,v=>R1 e.w e.S (.sl sz l) v∧(KX v∨(k≠0∧e.τ k=some v))
 | .pt n off,v=>∃ b,e.ρ n=some b∧v=.pointer (some ⟨b,off,none⟩)
 | .pp l,v=>∃ b o vs,v=.pointer (some ⟨b,o,none⟩)∧Rn e.w e.S l vs∧∀ i x,vs[i]? = some x→e.w.cell? ⟨b,o+i,none⟩=some x∧¬ e.S b (o+i)
 | .ex x d,v=>v=x∧R1 e.w e.S d v
 | .top,_=>True
 | .arr _ _,_=>False
 | .os n sz off len,v=>(len=0∧∃ o,v=.slice o 0 0)∨∃ b cap,e.ρ n=some b∧e.τ n=some (.slice none cap cap)∧v=.slice (some ⟨b,off * sz,none⟩) len (cap-off)∧off+len≤cap
 | .pa n sz i off,v=>∃ b,e.ρ n=some b∧v=.pointer (some ⟨b,i * sz+off,none⟩)
 | .nl,v=>∃ b,v=.slice (some ⟨b,0,none⟩) 1 1∧e.w.cell? ⟨b,0,none⟩=some (.slice none 0 0)∧¬ e.S b 0
 | .fs sz l,v=>R1 e.w e.S (.sl sz l) v∧KX v
 | .clo f ns,v=>∃ vs,RP e ns vs∧v=.func (.func f) #[] vs.toArray
 | .op p n off,v=>e.τ n=some (tyV BTY)∧((p=false∧v=.pointer none)∨(p=true∧∃ b,e.ρ n=some b∧v=.pointer (some ⟨b,off,none⟩)))
 | .bar _,_=>False
def RCs(e:Env):List C→List Value→Prop
 | [],[]=>True
 | c::l,v::vs=>RC e c v∧RCs e l vs
 | _,_=>False
def RT(e:Env):Bool×List C→Value→Prop
 | (true,l),v=>∃ vs,v=.agg ⟨vs⟩∧RCs e l vs
 | (false,l),v=>∃ c,l=[c]∧RC e c v
def RTs(e:Env):List (Bool×List C)→List Value→Prop
 | [],[]=>True
 | c::l,v::vs=>RT e c v∧RTs e l vs
 | _,_=>False
def RA(e:Env):AV→Value→Prop
 | .c x,v=>RC e x v
 | .ag l,v=>∃ vs,v=.agg ⟨vs⟩∧RCs e l vs
 | .tu l,v=>∃ vs,v=.tuple ⟨vs⟩∧RTs e l vs
 | .df _,_=>False
theorem RC.mono{e e':Env}(h:e.le e'):∀ {c:C} {v:Value},RC e c v→RC e' c v
 | .d _,_,k=>RD.mono h.keep k
 | .sl _ _ k,v,⟨k1,k2⟩=>⟨RD.mono h.keep k1,k2.imp id fun k3=>⟨k3.1,h.toks _ _ k3.2⟩⟩
 | .pt _ _,_,⟨b,k1,k2⟩=>⟨b,h.names _ _ k1,k2⟩
 | .pp _,_,⟨b,o,vs,k1,k2,k3⟩=>⟨b,o,vs,k1,RD.mono h.keep k2,fun i x hx=>let ⟨h1,h2⟩:=k3 i x hx; h.keep _ _ _ h1 h2⟩
 | .ex _ _,_,⟨k1,k2⟩=>⟨k1,RD.mono h.keep k2⟩
 | .top,_,_=>trivial
 | .os _ _ _ _,_,k=>k.imp id fun⟨b,cap,k1,k2,k3⟩=>⟨b,cap,h.names _ _ k1,h.toks _ _ k2,k3⟩
 | .fs _ _,_,⟨k1,k2⟩=>⟨RD.mono h.keep k1,k2⟩
 | .clo _ _,_,⟨vs,k1,k2⟩=>⟨vs,k1.mono h,k2⟩
 | .op _ _ _,_,k=>⟨h.toks _ _ k.1,k.2.imp id fun⟨k0,b,k1,k2⟩=>⟨k0,b,h.names _ _ k1,k2⟩⟩
 | .pa _ _ _ _,_,⟨b,k1,k2⟩=>⟨b,h.names _ _ k1,k2⟩
 | .nl,_,⟨b,k1,k2,k3⟩=>⟨b,k1,h.keep _ _ _ k2 k3⟩
theorem RCs.mono{e e':Env}(h:e.le e'):∀ {l:List C} {vs:List Value},RCs e l vs→RCs e' l vs
 | [],[],_=>trivial
 | _::_,_::_,⟨h1,h2⟩=>⟨RC.mono h h1,RCs.mono h h2⟩
theorem RT.mono{e e':Env}(h:e.le e'):∀ {c:Bool×List C} {v:Value},RT e c v→RT e' c v
 | (true,_),_,⟨vs,k1,k2⟩=>⟨vs,k1,RCs.mono h k2⟩
 | (false,_),_,⟨c,k1,k2⟩=>⟨c,k1,RC.mono h k2⟩
theorem RTs.mono{e e':Env}(h:e.le e'):∀ {l:List (Bool×List C)} {vs:List Value},RTs e l vs→RTs e' l vs
 | [],[],_=>trivial
 | _::_,_::_,⟨k1,k2⟩=>⟨RT.mono h k1,RTs.mono h k2⟩
theorem RTs.get{e:Env}:∀ {l:List (Bool×List C)} {vs:List Value},RTs e l vs→∀ i,i<l.length→∃ v,vs[i]? = some v∧RA e (AV.comp (l.getD i (false,[]))) v
 | [],[],_,i,h=>by simp at h
 | c::l,v::vs,⟨k1,k2⟩,i,h=>by
  cases i with
  | zero =>
   refine⟨v,rfl,?_⟩
   obtain⟨b,l'⟩:=c
   cases b with
   | true=>simp only[List.getD_cons_zero,AV.comp]; exact k1
   | false=>obtain⟨c,rfl,k1⟩:=k1; simp only[List.getD_cons_zero,AV.comp]; exact k1
  | succ i=>simpa using RTs.get k2 i (by simpa using h)
theorem RA.mono{e e':Env}(h:e.le e'):∀ {a:AV} {v:Value},RA e a v→RA e' a v
 | .c _,_,k=>RC.mono h k
 | .ag _,_,⟨vs,k1,k2⟩=>⟨vs,k1,RCs.mono h k2⟩
 | .tu _,_,⟨vs,k1,k2⟩=>⟨vs,k1,RTs.mono h k2⟩
theorem RCs.length{e:Env}:∀ {l:List C} {vs:List Value},RCs e l vs→vs.length=l.length
 | [],[],_=>rfl
 | _::_,_::_,⟨_,h2⟩=>by simp[RCs.length h2]
theorem RCs.get{e:Env}:∀ {l:List C} {vs:List Value},RCs e l vs→∀ (i:Nat) (c:C),l[i]? = some c→∃ x,vs[i]? = some x∧RC e c x
 | [],[],_,i,c,h=>by simp at h
 | _::_,_::_,⟨h1,h2⟩,i,c,hi=>by
  cases i with
  | zero=>simp at hi; subst hi; exact⟨_,rfl,h1⟩
  | succ i=>simpa using RCs.get h2 i c (by simpa using hi)
theorem RCs.drop{e:Env}:∀ {l:List C} {vs:List Value} (n:Nat),RCs e l vs→RCs e (l.drop n) (vs.drop n)
 | _,_,0,h=>h
 | [],[],_+1,_=>trivial
 | _::_,_::_,n+1,⟨_,h2⟩=>RCs.drop n h2
theorem RCs.take{e:Env}:∀ {l:List C} {vs:List Value} (n:Nat),RCs e l vs→RCs e (l.take n) (vs.take n)
 | [],[],0,_=>trivial
 | _::_,_::_,0,_=>trivial
 | [],[],_+1,_=>trivial
 | _::_,_::_,n+1,⟨h1,h2⟩=>⟨h1,RCs.take n h2⟩
theorem RCs.append{e:Env}:∀ {l m:List C} {vs us:List Value},RCs e l vs→RCs e m us→RCs e (l++m) (vs++us)
 | [],_,[],_,_,k=>k
 | _::_,_,_::_,_,⟨h1,h2⟩,k=>⟨h1,RCs.append h2 k⟩
def RB(e:Env)(n:Nat):List C→List Value→Prop
 | .arr sz l::cs,vs=>∃ us ts zs cap,vs=us++ts++zs∧Rn e.w e.S (l.flatMap D.cells) us∧(∀ d∈l,d.cells.length=sz)∧RCs e cs ts∧(cs=[]∨sz=1)∧0<sz∧vs.length=cap * sz∧cap≤maxLen ∧
   e.τ n=some (.slice none cap cap)
 | row,vs=>RCs e row vs
def ZA(t:TypeId):Bool:=([22,23,24,49]:List Nat).contains t
def JbY(t:TypeId):Bool:=([22,23,24,49]:List Nat).contains t && ([23,24,49]:List Nat).contains t
def C.isArr:C→Bool
 | .arr _ _=>true
 | .bar _=>true
 | _=>false
def rowP:List C→Bool
 | []=>true
 | c::_=>!c.isArr
theorem RB.plain{e:Env}{n:Nat}{row:List C}{vs:List Value}(h:RB e n row vs)(hp:rowP row=true):RCs e row vs:=by
 unfold RB at h
 split at h
 ·simp[rowP,C.isArr]at hp
 ·exact h
theorem RB.of{e:Env}{n:Nat}{row:List C}{vs:List Value}(h:RCs e row vs):RB e n row vs:=by
 unfold RB
 split
 ·cases vs with
  | nil=>exact h.elim
  | cons v vs=>exact h.1.elim
 ·exact h
theorem RB.mono{e e':Env}(h:e.le e'){n:Nat}{row:List C}{vs:List Value}(k:RB e n row vs):RB e' n row vs:=by
 unfold RB at *
 split at k
 ·obtain⟨us,ts,zs,cap,k1,k2,k3,k4,k5,k6,k7,k8,k9⟩:=k
  exact⟨us,ts,zs,cap,k1,RD.mono h.keep k2,k3,RCs.mono h k4,k5,k6,k7,k8,h.toks _ _ k9⟩
 ·exact RCs.mono h k
def Jia(e:Env)(n:Nat)(row:List C):Prop:=e.ρ n=none∧((∃ sz,row=[.arr sz []]∧0<sz)∨row=[.bar []])
def Jc6:List C→Bool
 | .bar _::_=>false
 | _=>true
def J9(l:List UInt8):List Value:=l.map fun b=>.int .u8 (b.toNat:Int)
def RO(e:Env)(n:Nat):List C→Obj→Prop
 | .bar l::r,o=>r=[]∧∃ cs fz zs,o=.cells cs UTY fz∧fz.2≤l.length∧cs.toList=J9 l++zs∧cs.size≤maxLen∧e.τ n=some (.slice none cs.size cs.size)
 | row,o=>∃ cs ty,o=.cells cs ty (0,0)∧RB e n row cs.toList∧(rowP row=true→e.τ n=some (tyV ty))
theorem RO.plain{e:Env}{n:Nat}{row:List C}{o:Obj}(h:RO e n row o)(hb:Jc6 row=true):∃ cs ty,o=.cells cs ty (0,0)∧RB e n row cs.toList:=by
 unfold RO at h
 split at h
 ·simp[Jc6]at hb
 ·obtain⟨cs,ty,h1,h2,_⟩:=h; exact⟨cs,ty,h1,h2⟩
theorem RO.ty{e:Env}{n:Nat}{row:List C}{cs:Array Value}{ty:TypeId}{fz:Nat×Nat}(h:RO e n row (.cells cs ty fz))(hp:rowP row=true):e.τ n=some (tyV ty):=by
 unfold RO at h
 split at h
 ·simp[rowP,C.isArr]at hp
 ·obtain⟨cs',ty',h1,_,h3⟩:=h
  cases h1; exact h3 hp
theorem RO.of{e:Env}{n:Nat}{row:List C}{cs:Array Value}{ty:TypeId}(h:RB e n row cs.toList)(hτ:rowP row=true→e.τ n=some (tyV ty)):RO e n row (.cells cs ty (0,0)):=by
 unfold RO
 split
 ·exfalso
  unfold RB at h
  split at h
  ·rename_i he; simp at he
  ·cases hc:cs.toList with
   | nil=>rw[hc]at h; exact h.elim
   | cons v vs=>rw[hc]at h; exact h.1.elim
 ·exact⟨cs,ty,rfl,h,hτ⟩
theorem RO.arr{e:Env}{n sz:Nat}{l:List D}{r:List C}{cs:Array Value}{ty:TypeId}(h:RB e n (.arr sz l::r) cs.toList):RO e n (.arr sz l::r) (.cells cs ty (0,0)):=RO.of h (fun hq=>by cases hq)
theorem RO.mono{e e':Env}(h:e.le e'){n:Nat}{row:List C}{o:Obj}(k:RO e n row o):RO e' n row o:=by
 unfold RO at *
 split at k
 ·obtain⟨k0,cs,fz,zs,k1,k2,k3,k4,k5⟩:=k
  exact⟨k0,cs,fz,zs,k1,k2,k3,k4,h.toks _ _ k5⟩
 ·obtain⟨cs,ty,k1,k2,k3⟩:=k
  exact⟨cs,ty,k1,RB.mono h k2,fun hp=>h.toks _ _ (k3 hp)⟩
def Jc1:Obj→Nat
 | .cells c _ _=>c.size
 | .map _ _=>1
 | _=>0
theorem V1:∀ {row:List C},rowP row=true→Jc6 row=true
 | [],_=>rfl
 | c::_,h=>by cases c <;> simp_all [rowP,Jc6,C.isArr]
def C.toD:C→D
 | .d x=>x
 | .sl sz l _=>.sl sz l
 | .ex _ y=>y
 | .fs sz l=>.sl sz l
 | _=>.v undef
def C.isD:C→Bool
 | .d _ | .sl _ _ _ | .ex _ _ | .fs _ _=>true
 | _=>false
def AV.toD:AV→D
 | .c x=>x.toD
 | .ag l=>.ag (l.map C.toD)
 | .tu _=>.v undef
 | .df _=>.v undef
def AV.isD:AV→Bool
 | .c x=>x.isD
 | .ag l=>l.all C.isD
 | .tu _=>false
 | .df _=>false
theorem RC.toD{e:Env}:∀ {c:C} {v:Value},c.isD=true→RC e c v→R1 e.w e.S c.toD v
 | .d _,_,_,h=>h
 | .sl _ _ _,_,_,h=>h.1
 | .ex _ _,_,_,h=>h.2
 | .fs _ _,_,_,h=>h.1
theorem RCs.toD{e:Env}:∀ {l:List C} {vs:List Value},l.all C.isD=true→RCs e l vs→Rn e.w e.S (l.map C.toD) vs
 | [],[],_,_=>.anil
 | c::l,v::vs,h,⟨h1,h2⟩=>by
  simp only[List.all_cons,Bool.and_eq_true]at h
  exact .acons _ _ _ _ (RC.toD h.1 h1) (RCs.toD h.2 h2)
theorem RA.toD{e:Env}:∀ {a:AV} {v:Value},a.isD=true→RA e a v→R1 e.w e.S a.toD v
 | .c _,_,h,k=>RC.toD h k
 | .ag _,_,h,⟨_,rfl,k2⟩=>.ag _ _ (RCs.toD h k2)
theorem RCs.ofD{e:Env}:∀ {l:List D} {vs:List Value},Rn e.w e.S l vs→RCs e (l.map C.d) vs
 | [],_,h=>by cases h; trivial
 | _::_,_,h=>by cases h with | acons _ _ _ _ h1 h2=>exact⟨h1,RCs.ofD h2⟩
structure Hp where
 H:Nat→Option (List C)
 T:Nat→Option Nat
 nx:Nat
def Jl(P:Program)(t:TypeId):Nat:=((P.info? t).map (·.size)).getD 0
structure Ctx where
 P:Program
 w0:World
 B:Nat
 S0:Nat→Nat→Prop
 M:Nat→Prop
 nt:Nat
 ds:List Deferred
 root:List (Option Nat×Option Value)
def Jel(Γ:Ctx)(w:World)(ty:TypeId)(sz:Nat)(v:Value)(n:Nat)(xs:List Value):Prop :=
 w.ownsRow 0 ty sz v n xs∧∀ b,v.ownBlock=some b→Γ.B≤b∨Γ.M b
structure WInv (Γ:Ctx) (h:Hp) (e:Env):Prop where
 g0:GW Γ.w0 Γ.S0∧∀ q∈Jd9,q.1<Γ.B∧¬ Γ.M q.1
 os:e.w.os=Γ.w0.os
 tape:e.w.tape=Γ.w0.tape
 output:e.w.output=Γ.w0.output
 grown:Γ.w0.heap.size≤e.w.heap.size
 hB:Γ.B≤e.w.heap.size
 old:∀ b,b<Γ.B→¬ Γ.M b→e.w.heap[b]? = Γ.w0.heap[b]?
 sdom:∀ b o,e.S b o→b<e.w.heap.size
 s0:∀ b o,Γ.S0 b o→¬ Γ.M b→e.S b o
 s0B:∀ b o,Γ.S0 b o→b<Γ.B
 keep:Keep Γ.w0 Γ.S0 e.w e.S
 box:∀ n row,h.H n=some row→Jia e n row∨∃ b ob,e.ρ n=some b∧e.w.heap[b]? = some ob∧RO e n row ob∧(∀ o,o<Jc1 ob→e.S b o)∧(Γ.B≤b∨Γ.M b)
 inj:∀ n m b,h.H n≠none→h.H m≠none→e.ρ n=some b→e.ρ m=some b→n=m
 tok:∀ k ty,h.T k=some ty→k≠0∧∃ v,e.τ k=some v∧(KX v∨∃ sz n xs,(0<sz∧sz=Jl Γ.P ty)∧Jel Γ e.w ty sz v n xs∧(∀ b o,v.ownBlock=some b→n * sz≤o→(e.w.cell? ⟨b,o,none⟩).isSome→e.S b o) ∧
  (∀ b,v.ownBlock=some b→∀ m,h.H m≠none→e.ρ m≠some b))
 tokinj:∀ k m v u b,h.T k≠none→h.T m≠none→e.τ k=some v→e.τ m=some u→v.ownBlock=some b→u.ownBlock=some b→¬ KX v→¬ KX u→k=m
 fresh:∀ n,h.nx≤n→h.H n=none∧h.T n=none∧e.ρ n=none∧e.τ n=none
 nx0:0<h.nx
 rt:Γ.root.length<h.nx∧∀ i x,Γ.root[i]? = some x→e.ρ (i+1)=x.1∧e.τ (i+1)=x.2
theorem Jb4{w:World}{b o:Nat}{cs:Array Value}{ty:TypeId}{fz:Nat×Nat}(h:w.heap[b]? = some (.cells cs ty fz))(ho:o<cs.size):w.cell? ⟨b,o,none⟩=some cs[o]:=by
 simp[World.cell?,h,ho]
theorem WInv.gw{Γ:Ctx}{h:Hp}{e:Env}(hw:WInv Γ h e):GW e.w e.S:=by
 intro q hq
 obtain⟨cs,ty,h1,h2,h3,h4⟩:=hw.g0.1 q hq
 obtain⟨g1,g2⟩:=hw.g0.2 q hq
 exact⟨cs,ty,(hw.old q.1 g1 g2).trans h1,h2,h3,fun o ho=>(hw.keep _ _ _ (Jb4 h1 ho) (h4 o ho)).2⟩
theorem WInv.rne{Γ:Ctx}{h:Hp}{e:Env}(hw:WInv Γ h e){i:Nat}{x:Option Nat×Option Value}(hx:Γ.root[i]? = some x):i+1≠h.nx:=by
 have h1:=(List.getElem?_eq_some_iff.1 hx).1
 have h2:=hw.rt.1
 omega
theorem WInv.boxAny{Γ:Ctx}{h:Hp}{e:Env}(hw:WInv Γ h e){b:Nat}{n:Nat}(hρ:e.ρ n=some b)(row:List C)(hn:h.H n=some row):
  ∃ ob,e.w.heap[b]? = some ob∧RO e n row ob∧(∀ o,o<Jc1 ob→e.S b o)∧(Γ.B≤b∨Γ.M b):=by
 rcases hw.box n row hn with hz | ⟨b',ob,h1,h2⟩
 ·rw[hz.1]at hρ; cases hρ
 ·rw[hρ]at h1; simp at h1; subst h1; exact⟨ob,h2⟩
theorem JjO{w:World}{b o:Nat}{x:Value}{ob:Obj}(hb:w.heap[b]? = some ob)(hc:w.cell? ⟨b,o,none⟩=some x):o<Jc1 ob:=by
 unfold World.cell? at hc
 rw[hb]at hc
 cases ob with
 | cells c t f=>simp at hc; exact(Array.getElem?_eq_some_iff.1 hc).1
 | _=>simp at hc
theorem WInv.ownS{Γ:Ctx}{h:Hp}{e:Env}(hw:WInv Γ h e){b n o:Nat}{x:Value}(hρ:e.ρ n=some b)(hn:h.H n≠none)(hc:e.w.cell? ⟨b,o,none⟩=some x):e.S b o:=by
 obtain⟨row,hr⟩:=Option.ne_none_iff_exists'.1 hn
 obtain⟨ob,h1,_,h3,_⟩:=hw.boxAny hρ row hr
 exact h3 o (JjO h1 hc)
theorem WInv.boxAt{Γ:Ctx}{h:Hp}{e:Env}(hw:WInv Γ h e){b:Nat}{n:Nat}(hρ:e.ρ n=some b)(row:List C)(hn:h.H n=some row)(hb:Jc6 row=true):
  ∃ b cs ty,e.ρ n=some b∧e.w.heap[b]? = some (.cells cs ty (0,0))∧RB e n row cs.toList∧(∀ o,o<cs.size→e.S b o)∧(Γ.B≤b∨Γ.M b):=by
 obtain⟨ob,h1,h2,h3,h4⟩:=hw.boxAny hρ row hn
 obtain⟨cs,ty,rfl,h5⟩:=h2.plain hb
 exact⟨b,cs,ty,hρ,h1,h5,h3,h4⟩
theorem Jcm:∀ {row:List C},row.all C.isD=true→rowP row=true
 | [],_=>rfl
 | c::_,h=>by
  simp only[List.all_cons,Bool.and_eq_true]at h
  cases c <;> simp_all [rowP,C.isArr,C.isD]
inductive GOut where
 | ret (val:AV) (bs:List (List C)) (ts:List TypeId)
 | pan (v:Value) (bs:List (List C)) (ts:List TypeId)
structure GI where
 args:List AV
 bs:List (List C)
 ts:List TypeId
 out:GOut
structure DI where
 args:List AV
 bs:List (List C)
 ts:List TypeId
 u:Option Value
 bs':List (List C)
 ts':List TypeId
 u':Option Value
def JcD:Value→AV
 | .slice none 0 0=>.c (.sl 0 [] 0)
 | v=>.c (.d (.v v))
def evA(σ:Nat→AV):Operand→AV
 | .tmp t=>σ t
 | .const v=>JcD v
 | .global g=>.c (.d (.v (.pointer (some ⟨g,0,none⟩))))
 | .func f=>.c (.d (.v (.func (.func f) #[] #[])))
def DS:Nat:=1000000
def RDl(e:Env):List (Nat×List C)→List Deferred→Prop
 | [],[]=>True
 | (f,cs)::l,d::m=>(∃ cap vs,d.target=.fn (.func f) cap∧d.args++cap=⟨vs⟩∧RCs e cs vs)∧RDl e l m
 | _,_=>False
def dfL:AV→List (Nat×List C)
 | .df l=>l
 | _=>[]
theorem RDl.mono{e e':Env}(h:e.le e'):∀ {l:List (Nat×List C)} {m:List Deferred},RDl e l m→RDl e' l m
 | [],[],_=>trivial
 | (_,_)::_,_::_,⟨⟨cap,vs,h1,h2,h3⟩,h4⟩=>⟨⟨cap,vs,h1,h2,RCs.mono h h3⟩,RDl.mono h h4⟩
def RDf(e:Env)(ds:List Deferred)(a:AV)(l:List Deferred):Prop:=∃ r,l=r++ds∧RDl e (dfL a) r
theorem RDf.mono{e e':Env}(h:e.le e'){ds:List Deferred}{a:AV}{l:List Deferred}(k:RDf e ds a l):RDf e' ds a l :=
 let ⟨r,h1,h2⟩:=k; ⟨r,h1,h2.mono h⟩
def Jm(nt:Nat)(ds:List Deferred)(σ:Nat→AV)(a:Act)(e:Env):Prop:=a.tmps.size=nt∧(RDf e ds (σ DS) a.defers∧nt≤DS)∧∀ i,i<nt→RA e (σ i) (a.tmps.getD i undef)
def upd{α:Type}(σ:Nat→α)(d:Nat)(x:α):Nat→α:=fun i=>if i=d then x else σ i
@[simp] theorem upd_same {α:Type} (σ:Nat→α) (d:Nat) (x:α):upd σ d x d=x:=by simp[upd]
theorem Jbt{α:Type}(σ:Nat→α)(d i:Nat)(x:α)(h:i≠d):upd σ d x i=σ i:=by simp[upd,h]
def putA(σ:Nat→AV):Option Tmp→AV→(Nat→AV)
 | some d,x=>upd σ d x
 | none,_=>σ
theorem Jm.mono{nt:Nat}{ds:List Deferred}{σ:Nat→AV}{a:Act}{e e':Env}(h:Jm nt ds σ a e)(hl:e.le e'):Jm nt ds σ a e' :=
 ⟨h.1,⟨h.2.1.1.mono hl,h.2.1.2⟩,fun i hi=>RA.mono hl (h.2.2 i hi)⟩
theorem Jm.put{nt:Nat}{ds:List Deferred}{σ:Nat→AV}{a:Act}{e:Env}(h:Jm nt ds σ a e)(dst:Option Tmp)(hds:dst≠some DS){x:AV}{v:Value}(hv:RA e x v):
  Jm nt ds (putA σ dst x) (a.put dst v) e:=by
 cases dst with
 | none=>exact h
 | some d =>
  refine⟨by simpa [Act.put] using h.1,⟨by
   have hne:DS≠d:=fun he=>hds (by rw[he])
   simpa [Act.put,putA,upd,hne] using h.2.1.1,h.2.1.2⟩,fun i hi=>?_⟩
  have:=h.2.2 i hi
  have hs:=h.1
  simp only[Act.put,putA,upd]
  by_cases hid:i=d
  ·subst hid; simpa [Array.getD_eq_getD_getElem?,hs,hi] using hv
  ·simp only[hid,if_false]
   simpa [Array.getD_eq_getD_getElem?,Array.getElem?_setIfInBounds,Ne.symm hid] using this
theorem Jem{nt:Nat}{ds:List Deferred}{σ:Nat→AV}{a:Act}{e:Env}(h:Jm nt ds σ a e)(x:Operand)(hx:∀ t,x=.tmp t→t<nt):RA e (evA σ x) (a.eval x):=by
 cases x with
 | tmp t=>exact h.2.2 t (hx t rfl)
 | const v =>
  simp only[evA,Act.eval,JcD]
  split
  ·exact⟨.slnil 0 _,.inl ⟨_,_,rfl⟩⟩
  ·exact .v _
 | global g=>exact .v _
 | func f=>exact .v _
def Zn(o:Oper)(σ:Nat→AV)(a:Act)(e:Env):Prop:=∀ x,x∈o.op.operands→RA e (evA σ x) (a.eval x)
def VR(Γ:Ctx)(o:Oper)(σ:Nat→AV)(h:Hp)(av:AV)(h':Hp):Prop :=
 ∀ a e,Zn o σ a e→WInv Γ h e→∀ (K:Act→World→Prop) (Q:Exit→Act→World→Prop),
  (∀ v e',WInv Γ h' e'→e.le e'→RA e' av v→K (a.put o.dst v) e'.w)→o.wp Γ.P a e.w K Q
end Go.Proofs.YtfkhlbhjhdpkoaaDoor
namespace Go.Proofs.YtfkhlbhjhdpkoaaDoor
open Go.RowKit
abbrev str(l:List UInt8):Value:=.string ⟨l.toArray⟩
def bl(s:ByteArray):List UInt8:=s.data.toList
@[simp] theorem bl_mk (l:List UInt8):bl ⟨l.toArray⟩=l:=rfl
theorem JkK(s:ByteArray):str (bl s)=.string s:=rfl
theorem Jax(s:ByteArray):s.size=(bl s).length:=(Array.length_toList (xs:=s.data)).symm
def eqI(a b:Int):Bool:=decide (a=b)
def ltI(a b:Int):Bool:=decide (a<b)
def leI(a b:Int):Bool:=decide (a≤b)
def eqS(a b:List UInt8):Bool:=decide (a=b)
def eqB(a b:Bool):Bool:=decide (a=b)
theorem JhM(a b:Int):(eqI a b=true)=(a=b):=by simp[eqI]
theorem Jf4(a b:Int):(eqI a b=false)=¬ (a=b):=by simp[eqI]
theorem JhJ(a b:Int):(ltI a b=true)=(a<b):=by simp[ltI]
theorem Jgp(a b:Int):(ltI a b=false)=¬ (a<b):=by simp[ltI]
theorem Jh4(a b:Int):(leI a b=true)=(a≤b):=by simp[leI]
theorem Jgu(a b:Int):(leI a b=false)=¬ (a≤b):=by simp[leI]
theorem Jh5(a b:List UInt8):(eqS a b=true)=(a=b):=by simp[eqS]
theorem JgE(a b:List UInt8):(eqS a b=false)=¬ (a=b):=by simp[eqS]
theorem JhW(a b:Bool):(eqB a b=true)=(a=b):=by simp[eqB]
theorem Jgs(a b:Bool):(eqB a b=false)=¬ (a=b):=by simp[eqB]
theorem ltL0:ltI 0 2=true:=by decide
theorem ltL1:ltI 1 2=true:=by decide
theorem ltL2:ltI 2 2=false:=by decide
theorem eqL0:eqI 0 0=true:=by decide
theorem eqL1:eqI 1 1=true:=by decide
theorem eqL2:eqI 0 1=false:=by decide
theorem eqL3:eqI 1 0=false:=by decide
theorem Jfp:IntKind.i64.signed=true:=rfl
theorem wrL1:IntKind.i64.wrap 1=1:=by decide
theorem wrL2:IntKind.i64.wrap 2=2:=by decide
theorem wrL3:IntKind.i64.wrap 3=3:=by decide
def Jeg(P:Program)(t:TypeId):Bool:=match P.underlying t with | some (.interface ms)=>ms.isEmpty | _=>false
def abin(P:Program)(op:BinOp)(t:TypeId):Value→Value→Prop×Value
 | .int k a,.int k' b =>
  match op with
  | .add=>(k=k',.int k (k.wrap (a+b)))
  | .sub=>(k=k',.int k (k.wrap (a-b)))
  | .mul=>(k=k',.int k (k.wrap (a * b)))
  | .eql=>(k=k',.bool (eqI a b))
  | .neq=>(k=k',.bool (!eqI a b))
  | .lss=>(k=k',.bool (ltI a b))
  | .leq=>(k=k',.bool (leI a b))
  | .gtr=>(k=k',.bool (ltI b a))
  | .geq=>(k=k',.bool (leI b a))
  | .quo=>(k=k'∧b≠0,.int k (k.wrap (a.tdiv b)))
  | .rem=>(k=k'∧b≠0,.int k (a.tmod b))
  | .shr=>(0≤b,.int k (a.fdiv (2 ^ (min b.toNat k.bits))))
  | .shl=>(0≤b,.int k (k.wrap (a * 2 ^ (min b.toNat k.bits))))
  | .and=>(k=k',.int k (k.wrap ((BitVec.ofInt k.bits a) &&& (BitVec.ofInt k.bits b)).toNat))
  | .or=>(k=k',.int k (k.wrap ((BitVec.ofInt k.bits a) ||| (BitVec.ofInt k.bits b)).toNat))
  | .xor=>(k=k',.int k (k.wrap ((BitVec.ofInt k.bits a) ^^^ (BitVec.ofInt k.bits b)).toNat))
  | _=>(False,undef)
 | .string x,.string y =>
  match op with
  | .add=>((bl x).length+(bl y).length≤9223372036854775807,str (bl x++bl y))
  | .eql=>(True,.bool (eqS (bl x) (bl y)))
  | .neq=>(True,.bool (!eqS (bl x) (bl y)))
  | .lss=>(True,.bool (Op.bytesLess (bl x) (bl y)))
  | .leq=>(True,.bool (Op.bytesLess (bl x) (bl y) || eqS (bl x) (bl y)))
  | .gtr=>(True,.bool (!(Op.bytesLess (bl x) (bl y) || eqS (bl x) (bl y))))
  | .geq=>(True,.bool (!Op.bytesLess (bl x) (bl y)))
  | _=>(False,undef)
 | .bool a,.bool b =>
  match op with
  | .eql=>(P.underlying t=some .bool,.bool (eqB a b))
  | .neq=>(P.underlying t=some .bool,.bool (!eqB a b))
  | _=>(False,undef)
 | .iface _ _,.nilIface =>
  match op with
  | .eql=>(Jeg P t=true,.bool false)
  | .neq=>(Jeg P t=true,.bool true)
  | _=>(False,undef)
 | .nilIface,.nilIface =>
  match op with
  | .eql=>(Jeg P t=true,.bool true)
  | .neq=>(Jeg P t=true,.bool false)
  | _=>(False,undef)
 | _,_=>(False,undef)
theorem Z8(P:Program)(op:BinOp)(t:TypeId)(x y:Operand)(a b:Value)(w:World)(h1:∀ c,a≠.agg c)(h2:a≠.nilIface):
  (eqGuard op t x y a b).run P w=.ok () w:=by
 unfold eqGuard
 cases op <;> simp[Sem.run_bind] <;> (cases a <;> first | (exfalso; exact h1 _ rfl) | (exfalso; exact h2 rfl) | simp[Sem.run_pure])
theorem Bool.dec_eq(a b:Bool):(a == b)=decide (a=b):=by cases a <;> cases b <;> rfl
theorem Jkf(P:Program)(op:BinOp)(t:TypeId)(a b:Bool)(w:World)(h:(abin P op t (.bool a) (.bool b)).1):
  (binOp op t (.bool a) (.bool b)).run P w=.ok (abin P op t (.bool a) (.bool b)).2 w:=by
 cases op <;> simp only[abin]at h ⊢ <;>
  first | (exact h.elim) | (simp only[Go.binOp,Sem.run_bind,run_equal_bool _ _ _ _ h,Result.andThen_ok,Sem.run_pure,Bool.dec_eq,eqB])
theorem Jlp(P:Program)(op:BinOp)(t:TypeId)(k k':IntKind)(a b:Int)(w:World)(h:(abin P op t (.int k a) (.int k' b)).1):
  (binOp op t (.int k a) (.int k' b)).run P w=.ok (abin P op t (.int k a) (.int k' b)).2 w:=by
 cases op <;> simp only[abin]at h ⊢ <;> (try exact h.elim) <;> (try obtain⟨h,h2⟩:=h) <;> (try subst h) <;>
  simp only[Go.binOp,ne_eq,not_true_eq_false,if_false,eqI,ltI,leI,Op.intArith,Op.intCmp,Op.intBits,Op.intDiv,Op.shift,Sem.run_pure]
 all_goals first
  | rfl
  | (rw[if_neg h2]; rfl)
  | (rw[if_neg (by omega)]; rfl)
  | (by_cases hab:a=b <;> simp[hab])
theorem JlK(P:Program)(op:BinOp)(t:TypeId)(a b:ByteArray)(w:World)(h:(abin P op t (.string a) (.string b)).1):
  (binOp op t (.string a) (.string b)).run P w=.ok (abin P op t (.string a) (.string b)).2 w:=by
 have hl:(bl a == bl b)=decide (bl a=bl b):=by by_cases hab:bl a=bl b <;> simp[hab]
 have ha:a.toList=bl a:=ByteArray.toList_eq a
 have hb:b.toList=bl b:=ByteArray.toList_eq b
 cases op <;> simp only[abin]at h ⊢ <;> (try exact h.elim) <;> simp only[Go.binOp,Op.stringOp,ha,hb,hl,eqS,Sem.run_pure]
 ·have hm:IntKind.i64.max=9223372036854775807:=rfl
  rw[Jax,Jax,hm,if_neg (by omega),Sem.run_pure]
  have:a++b=⟨(bl a++bl b).toArray⟩:=by
   apply ByteArray.ext
   simp[bl,ByteArray.data_append]
  rw[this]
theorem Jk7{P:Program}{t:TypeId}(h:Jeg P t=true):∃ ms,P.underlying t=some (.interface ms)∧ms.isEmpty=true:=by
 unfold Jeg at h
 split at h
 ·exact⟨_,by assumption,h⟩
 ·cases h
theorem JlB(P:Program)(op:BinOp)(t:TypeId)(x y:Operand)(a:Value)(w:World)(h:(abin P op t a .nilIface).1):
  (do eqGuard op t x y a .nilIface; binOp op t a .nilIface).run P w=.ok (abin P op t a .nilIface).2 w:=by
 have he:∀ ms,P.underlying t=some (.interface ms)→∀ u v,(Op.equal t (.iface u v) .nilIface).run P w=.ok false w:=by
  intro ms hu u v
  show(Op.equalIn (9999+1) t _ _).run P w=_
  unfold Op.equalIn
  simp only[Sem.run_bind,run_underlying hu,Result.andThen_ok]; rfl
 have hn:∀ ms,P.underlying t=some (.interface ms)→(Op.equal t .nilIface .nilIface).run P w=.ok true w:=by
  intro ms hu
  show(Op.equalIn (9999+1) t _ _).run P w=_
  unfold Op.equalIn
  simp only[Sem.run_bind,run_underlying hu,Result.andThen_ok]; rfl
 have hg:∀ ms,P.underlying t=some (.interface ms)→ms.isEmpty=true→(Op.eqGuardIn Op.maxDepth t .nilIface .nilIface).run P w=.ok false w:=by
  intro ms hu hm
  show(Op.eqGuardIn (9999+1) t _ _).run P w=_
  unfold Op.eqGuardIn
  simp only[Sem.run_bind,run_underlying hu,Result.andThen_ok]; simp[hm]
 cases a <;> try (exact h.elim)
 all_goals cases op <;> try (exact h.elim)
 all_goals obtain⟨ms,hu,hm⟩:=Jk7 h
 all_goals rw[Sem.run_bind]
 ·rw[Z8 _ _ _ _ _ _ _ _ (by simp) (by simp),Result.andThen_ok]; simp only[Go.binOp,Sem.run_bind,he ms hu]; rfl
 ·rw[Z8 _ _ _ _ _ _ _ _ (by simp) (by simp),Result.andThen_ok]; simp only[Go.binOp,Sem.run_bind,he ms hu]; rfl
 ·have:(eqGuard .eql t x y .nilIface .nilIface).run P w=.ok () w:=by
   unfold eqGuard
   simp[Sem.run_bind]
   intros
   rw[hg ms hu hm]; rfl
  rw[this,Result.andThen_ok]; simp only[Go.binOp,Sem.run_bind,hn ms hu]; rfl
 ·have:(eqGuard .neq t x y .nilIface .nilIface).run P w=.ok () w:=by
   unfold eqGuard
   simp[Sem.run_bind]
   intros
   rw[hg ms hu hm]; rfl
  rw[this,Result.andThen_ok]; simp only[Go.binOp,Sem.run_bind,hn ms hu]; rfl
theorem Jlt(P:Program)(op:BinOp)(t:TypeId)(x y:Operand)(a b:Value)(w:World)(h:(abin P op t a b).1):
  (do eqGuard op t x y a b; binOp op t a b).run P w=.ok (abin P op t a b).2 w:=by
 by_cases hb:b=.nilIface
 ·subst hb; exact JlB P op t x y a w h
 cases a <;> try (exact h.elim)
 all_goals cases b <;> try (first | exact h.elim | exact absurd rfl hb)
 all_goals rw[Sem.run_bind,Z8 _ _ _ _ _ _ _ _ (by simp) (by simp),Result.andThen_ok]
 ·exact Jkf _ _ _ _ _ _ h
 ·exact Jlp _ _ _ _ _ _ _ _ h
 ·exact JlK _ _ _ _ _ _ h
def aun(op:UnOp):Value→Prop×Value
 | .bool b=>match op with
  | .not=>(True,.bool (!b))
  | _=>(False,undef)
 | .int k n=>match op with
  | .neg=>(True,.int k (k.wrap (0-n)))
  | .xor=>(k.signed=true,.int k (k.wrap ((BitVec.ofInt k.bits (-1)) ^^^ (BitVec.ofInt k.bits n)).toNat))
  | _=>(False,undef)
 | _=>(False,undef)
theorem JmJ(P:Program)(op:UnOp)(a:Value)(w:World)(h:(aun op a).1):(Op.unary op a).run P w=.ok (aun op a).2 w:=by
 cases a <;> try (exact h.elim)
 all_goals cases op <;> first | (exact h.elim) | rfl | (have h:_=true:=h; simp only[Op.unary,aun,h,if_true]; rfl)
def tAgg(P:Program)(t:TypeId):Bool:=match P.underlying t with | some (.struct _) | some (.array _ _)=>true | _=>false
def tOff(P:Program)(s:TypeId)(f:Nat):Nat:=match P.underlying s with | some (.struct fs)=>((fs[f]?).map (·.offset)).getD 0 | _=>0
def tFld(P:Program)(s:TypeId)(f:Nat):TypeId:=match P.underlying s with | some (.struct fs)=>((fs[f]?).map (·.type)).getD 0 | _=>0
def Jk(P:Program)(t:TypeId):TypeId:=match P.underlying t with | some (.slice e)=>e | _=>0
def KR(P:Program)(s:TypeId)(f:Nat):Bool:=match P.underlying s with | some (.struct fs)=>(fs[f]?).isSome && Jl P (((fs[f]?).map (·.type)).getD 0) != 0 && (P.underlying (((fs[f]?).map (·.type)).getD 0)).isSome && (P.info? (((fs[f]?).map (·.type)).getD 0)).isSome | _=>false
def JM(P:Program)(t:TypeId):Bool:=match P.underlying t with | some (.slice e)=>(P.info? e).isSome && (P.underlying e).isSome | _=>false
def Kn(P:Program)(t:TypeId):Bool:=(P.info? t).isSome && (P.underlying t).isSome
theorem Kk(P:Program)(t:TypeId)(w:World)(h:Kn P t=true):(sizeOf t).run P w=.ok (Jl P t) w:=by
 simp only[Kn,Bool.and_eq_true,Option.isSome_iff_exists]at h
 obtain⟨⟨i,hi⟩,_⟩:=h
 simp[sizeOf,typeInfo,Jl,hi]
theorem Jdx(P:Program)(t:TypeId)(w:World)(h:Kn P t=true):(isAgg t).run P w=.ok (tAgg P t) w:=by
 simp only[Kn,Bool.and_eq_true,Option.isSome_iff_exists]at h
 obtain⟨_,⟨d,hd⟩⟩:=h
 cases d <;> simp[isAgg,underlying,tAgg,hd]
def slD:AV→Option (Nat×List D)
 | .c (.d (.sl sz l))=>some (sz,l)
 | .c (.sl sz l _)=>some (sz,l)
 | .c (.ex _ (.sl sz l))=>some (sz,l)
 | .c (.fs sz l)=>some (sz,l)
 | _=>none
theorem RA.slD{e:Env}{x:AV}{v:Value}{sz:Nat}{l:List D}(h:RA e x v)(hs:slD x=some (sz,l)):R1 e.w e.S (.sl sz l) v:=by
 unfold Proofs.YtfkhlbhjhdpkoaaDoor.slD at hs
 split at hs
 ·simp at hs; obtain⟨rfl,rfl⟩:=hs; exact h
 ·simp at hs; obtain⟨rfl,rfl⟩:=hs; exact h.1
 ·simp at hs; obtain⟨rfl,rfl⟩:=hs; exact h.2
 ·simp at hs; obtain⟨rfl,rfl⟩:=hs; exact h.1
 ·simp at hs
theorem R1.slInv{w:World}{S:Nat→Nat→Prop}{sz:Nat}{l:List D}{v:Value}(h:R1 w S (.sl sz l) v):
  (l=[]∧∃ o,v=.slice o 0 0)∨∃ vs b o cap,v=.slice (some ⟨b,o,none⟩) l.length cap∧Rn w S (l.flatMap D.cells) vs ∧
   (∀ i x,vs[i]? = some x→w.cell? ⟨b,o+i,none⟩=some x∧¬ S b (o+i))∧(∀ d∈l,d.cells.length=sz)∧l.length≤cap:=by
 cases h with
 | slnil _ o=>exact .inl ⟨rfl,o,rfl⟩
 | sl _ _ vs b o cap h1 h2 h3 h4=>exact .inr ⟨vs,b,o,cap,rfl,h1,h2,h3,h4⟩
theorem R1.vInv{w:World}{S:Nat→Nat→Prop}{x v:Value}(h:R1 w S (.v x) v):v=x:=by cases h; rfl
theorem R1.tuInv{w:World}{S:Nat→Nat→Prop}{l:List D}{v:Value}(h:R1 w S (.tu l) v):∃ vs,v=.tuple ⟨vs⟩∧Rn w S l vs:=by
 cases h with | tu _ vs h=>exact⟨vs,rfl,h⟩
theorem R1.agInv{w:World}{S:Nat→Nat→Prop}{l:List D}{v:Value}(h:R1 w S (.ag l) v):∃ vs,v=.agg ⟨vs⟩∧Rn w S l vs:=by
 cases h with | ag _ vs h=>exact⟨vs,rfl,h⟩
theorem VR.of_run{Γ:Ctx}{o:Oper}{σ:Nat→AV}{h:Hp}{av:AV}
  (hr:∀ a e,Zn o σ a e→WInv Γ h e→∃ v,(execOp a.eval o).run Γ.P e.w=.ok (.value v) e.w∧RA e av v):VR Γ o σ h av h:=by
 intro a e ho hw K Q hk
 obtain⟨v,h1,h2⟩:=hr a e ho hw
 unfold Oper.wp
 rw[h1]
 exact hk v e hw (Env.le.refl e) h2
structure AR where
 pre:Prop
 val:AV
 h:Hp
def AR.bad(h:Hp):AR:=⟨False,.c (.d (.v undef)),h⟩
def JbJ(σ:Nat→AV)(h:Hp)(c x y:Operand):AR :=
 match evA σ c with
 | .c (.d (.v (.bool p)))=>⟨True,if p then evA σ x else evA σ y,h⟩
 | _=>.bad h
theorem JmH{Γ:Ctx}{σ:Nat→AV}{h:Hp}(o:Oper)(c x y:Operand)(ho:o.op=.pick c x y)(hp:(JbJ σ h c x y).pre):
  VR Γ o σ h (JbJ σ h c x y).val (JbJ σ h c x y).h:=by
 unfold JbJ at *
 split at hp
 ·rename_i p hc
  refine VR.of_run fun a e hop hw=>?_
  have h1:=hop c (by simp[ho,Op.operands])
  have h2:=hop x (by simp[ho,Op.operands])
  have h3:=hop y (by simp[ho,Op.operands])
  rw[hc]at h1
  have h1:=R1.vInv h1
  refine⟨if p then a.eval x else a.eval y,?_,?_⟩
  ·simp[execOp,ho,h1,asBool]
  ·cases p <;> simpa using by assumption
 ·exact hp.elim
theorem JiO{Γ:Ctx}{σ:Nat→AV}{h:Hp}(o:Oper)(x:Operand)(ho:o.op=.move x∨o.op=.assign x):VR Γ o σ h (evA σ x) h:=by
 refine VR.of_run fun a e hop hw=>⟨a.eval x,?_,hop x ?_⟩
 ·rcases ho with ho | ho <;> simp[execOp,ho]
 ·rcases ho with ho | ho <;> simp[ho,Op.operands]
def eqV:Value→Value→Prop×Bool
 | .int k a,.int k' b=>(k=k',eqI a b)
 | .string a,.string b=>(True,eqS (bl a) (bl b))
 | .bool a,.bool b=>(True,eqB a b)
 | _,_=>(False,false)
def eqVs:List Value→List Value→Prop×Bool
 | [a],[b]=>eqV a b
 | a::l,b::m=>((eqV a b).1∧(eqVs l m).1,(eqV a b).2 && (eqVs l m).2)
 | _,_=>(False,false)
def JjB(P:Program)(t:TypeId):Bool:=match P.underlying t with | some (.int _) | some .string | some .bool=>(P.info? t).isSome | _=>false
def Jd3(P:Program):Nat→List Field→Bool
 | _,[]=>true
 | n,f::fs=>f.name != "_" && f.offset == n && JjB P f.type && Jd3 P (n+1) fs
def Jei(P:Program)(t:TypeId):Bool:=match P.underlying t with | some (.struct fs)=>!fs.toList.isEmpty && Jd3 P 0 fs.toList && !P.stoodInHeld t && !P.eqGuardType P.depth t && (P.info? t).isSome | _=>false
def okV(P:Program)(t:TypeId)(a:Value):Prop:=match a,P.underlying t with | .int _ _,some (.int _)=>True | .string _,some .string=>True | .bool _,some .bool=>True | _,_=>False
def fitV:Value→TypeDesc→Prop
 | .int _ _,.int _=>True
 | .string _,.string=>True
 | .bool _,.bool=>True
 | _,_=>False
theorem Jnc{P:Program}{t:TypeId}{a:Value}(h:okV P t a):∃ D,P.underlying t=some D∧fitV a D:=by
 unfold okV at h
 cases hu:P.underlying t with
 | none=>rw[hu]at h; cases a <;> exact h.elim
 | some D=>rw[hu]at h; refine⟨D,rfl,?_⟩; cases a <;> cases D <;> first | trivial | exact h.elim
theorem Jfn{P:Program}(d:Nat)(t:TypeId)(a b:Value)(w:World)(h:(eqV a b).1)(hok:okV P t a):
  (Op.equalIn (d+1) t a b).run P w=.ok (eqV a b).2 w:=by
 obtain⟨D,hD,hm⟩:=Jnc hok
 clear hok
 cases a <;> cases b <;> simp only[eqV]at h ⊢ <;> try (exact h.elim)
 ·cases D <;> try (exact hm.elim)
  simp only[Op.equalIn,Sem.run_bind,run_underlying hD,Result.andThen_ok,Sem.run_pure,Bool.dec_eq,eqB]
 ·cases D <;> try (exact hm.elim)
  subst h
  simp only[Op.equalIn,Sem.run_bind,run_underlying hD,Result.andThen_ok,Sem.run_pure,if_true,eqI]
  congr 1
 ·rename_i x y
  cases D <;> try (exact hm.elim)
  have ha:x.toList=bl x:=ByteArray.toList_eq x
  have hb:y.toList=bl y:=ByteArray.toList_eq y
  have hl:(bl x == bl y)=decide (bl x=bl y):=by by_cases hab:bl x=bl y <;> simp[hab]
  simp only[Op.equalIn,Sem.run_bind,run_underlying hD,Result.andThen_ok,Sem.run_pure,eqS,beq_toListBytes,ha,hb,hl]
def okVs(P:Program):List Field→List Value→Prop
 | [],[]=>True
 | f::fs,a::l=>okV P f.type a∧okVs P fs l
 | _,_=>False
def Zd:Value→Nat
 | .int _ _=>1
 | .string _=>2
 | .bool _=>3
 | _=>0
def JeX:Option TypeDesc→Nat
 | some (.int _)=>1
 | some .string=>2
 | some .bool=>3
 | _=>4
theorem Jm1{P:Program}{t:TypeId}{a:Value}(h:Zd a=JeX (P.underlying t)):okV P t a:=by
 unfold okV
 cases hu:P.underlying t with
 | none=>rw[hu]at h; cases a <;> simp[Zd,JeX]at h
 | some D=>rw[hu]at h; cases a <;> cases D <;> simp_all [Zd,JeX]
theorem JiS{P:Program}:∀ {fs:List Field} {as:List Value},as.map Zd=fs.map (fun f=>JeX (P.underlying f.type))→okVs P fs as
 | [],[],_=>trivial
 | [],_::_,h=>by simp at h
 | _::_,[],h=>by simp at h
 | f::fs,a::as,h=>by
  simp only[List.map_cons,List.cons.injEq]at h
  exact⟨Jm1 h.1,JiS h.2⟩
theorem Jdk{P:Program}{t:TypeId}{xs:Array Value}{n:Nat}{v:Value}(w:World)(ht:JjB P t=true)(hx:xs[n]? = some v):(part t xs n).run P w=.ok v w:=by
 unfold JjB at ht
 cases hu:P.underlying t with
 | none=>rw[hu]at ht; simp at ht
 | some D =>
  rw[hu]at ht
  have hi:(isAgg t).run P w=.ok false w:=by
   cases D <;> first | (simp at ht; done) | simp[isAgg,underlying,hu]
  unfold part
  simp only[Sem.run_bind,hi,Result.andThen_ok,Bool.false_eq_true,if_false,hx,Sem.run_pure]
theorem JbA{P:Program}(d:Nat)(xs ys:Array Value)(w:World):∀ (fs:List Field) (n:Nat) (as bs:List Value),Jd3 P n fs=true→fs≠[]→(∀ i:Nat,i<as.length→xs[n+i]? = as[i]?)→(∀ i:Nat,i<bs.length→ys[n+i]? = bs[i]?) →
  okVs P fs as→(eqVs as bs).1→(Op.eqFields (d+1) xs ys fs).run P w=.ok (eqVs as bs).2 w
 | [],_,_,_,_,h,_,_,_,_=>absurd rfl h
 | f::fs,n,as,bs,hf,_,hx,hy,hok,he=>by
  simp only[Jd3,Bool.and_eq_true,bne_iff_ne,ne_eq,beq_iff_eq]at hf
  obtain⟨⟨⟨h1,h2⟩,h3⟩,h4⟩:=hf
  match as,bs,hok,he with
  | _::_,[],_,he=>simp[eqVs]at he
  | a::as,b::bs,hok,he =>
   have e1:=Jdk (P:=P) w h3 (xs:=xs) (n:=n) (v:=a) (by simpa using hx 0 (by simp))
   have e2:=Jdk (P:=P) w h3 (xs:=ys) (n:=n) (v:=b) (by simpa using hy 0 (by simp))
   have hab:(eqV a b).1:=by
    cases as <;> cases bs <;> simp only[eqVs]at he
    ·exact he
    ·exact he.1
    ·exact he.1
    ·exact he.1
   have e3:=Jfn (P:=P) d f.type a b w hab hok.1
   simp only[Op.eqFields,h1,ne_eq,not_false_eq_true,if_true,Sem.run_bind,h2,e1,e2,e3,Result.andThen_ok]
   cases hfs:fs with
   | nil =>
    subst hfs
    have hasn:as=[]:=by cases as with | nil=>rfl | cons _ _=>exact hok.2.elim
    subst hasn
    cases bs with
    | nil=>simp only[eqVs]; cases (eqV a b).2 <;> simp[Op.eqFields]
    | cons _ _=>simp[eqVs]at he
   | cons g gs =>
    rw[← hfs]
    have hne:fs≠[]:=by rw[hfs]; simp
    cases as with
    | nil=>rw[hfs]at hok; exact hok.2.elim
    | cons a' as' =>
     cases bs with
     | nil=>simp[eqVs]at he
     | cons b' bs' =>
      have ih:=JbA d xs ys w fs (n+1) (a'::as') (b'::bs') h4 hne (fun i hi=>by have:=hx (i+1) (by simp at hi ⊢; omega); rw[show n+(i+1)=n+1+i by omega]at this; simpa using this) (fun i hi=>by have:=hy (i+1) (by simp at hi ⊢; omega); rw[show n+(i+1)=n+1+i by omega]at this; simpa using this) hok.2 (by
       have:=he
       simp only[eqVs]at this
       exact this.2)
      have hv:(eqVs (a::a'::as') (b::b'::bs')).2=((eqV a b).2 && (eqVs (a'::as') (b'::bs')).2):=by
       simp[eqVs]
      rw[hv]
      cases (eqV a b).2
      ·simp
      ·simpa using ih
def exV:C→Option Value
 | .d (.v x)=>some x
 | _=>none
def exVs:List C→Option (List Value)
 | []=>some []
 | c::l=>match exV c,exVs l with | some v,some vs=>some (v::vs) | _,_=>none
def agV:AV→Option (List Value)
 | .ag l=>exVs l
 | .c (.d (.ag l))=>exVs (l.map .d)
 | _=>none
theorem JeN{e:Env}:∀ {l:List C} {vs us:List Value},exVs l=some us→RCs e l vs→vs=us
 | [],[],us,h,_=>by simp[exVs]at h; exact h.symm
 | c::l,v::vs,us,h,⟨h1,h2⟩=>by
  simp only[exVs]at h
  split at h
  ·rename_i x xs hx hxs
   simp at h; subst h
   have:=JeN hxs h2
   subst this
   unfold exV at hx
   split at hx
   ·simp at hx; subst hx
    have:=R1.vInv h1
    subst this; rfl
   ·cases hx
  ·cases h
theorem Jcs{e:Env}{a:AV}{v:Value}{us:List Value}(h:agV a=some us)(k:RA e a v):v=.agg ⟨us⟩:=by
 unfold agV at h
 split at h
 ·obtain⟨vs,rfl,k2⟩:=k
  rw[JeN h k2]
 ·obtain⟨vs,rfl,k2⟩:=R1.agInv k
  rw[JeN h (RCs.ofD k2)]
 ·cases h
def flds(P:Program)(t:TypeId):List Field:=match P.underlying t with | some (.struct fs)=>fs.toList | _=>[]
def Jd2(P:Program)(t:TypeId):List Nat:=(flds P t).map fun f=>JeX (P.underlying f.type)
def JaS(P:Program)(h:Hp)(op:BinOp)(t:TypeId)(x y:AV):AR :=
 match op,agV x,agV y with
 | .eql,some as,some bs=>⟨Jei P t=true∧as.map Zd=Jd2 P t∧(eqVs as bs).1,.c (.d (.v (.bool (eqVs as bs).2))),h⟩
 | .neq,some as,some bs=>⟨Jei P t=true∧as.map Zd=Jd2 P t∧(eqVs as bs).1,.c (.d (.v (.bool (!(eqVs as bs).2)))),h⟩
 | _,_,_=>.bad h
theorem Jg6{P:Program}{t:TypeId}(as bs:List Value)(w:World)(h1:Jei P t=true)(h2:as.map Zd=Jd2 P t)(h4:(eqVs as bs).1)(xo yo:Operand):
  (do eqGuard .eql t xo yo (.agg ⟨as⟩) (.agg ⟨bs⟩); binOp .eql t (.agg ⟨as⟩) (.agg ⟨bs⟩)).run P w=.ok (.bool (eqVs as bs).2) w ∧
  (do eqGuard .neq t xo yo (.agg ⟨as⟩) (.agg ⟨bs⟩); binOp .neq t (.agg ⟨as⟩) (.agg ⟨bs⟩)).run P w=.ok (.bool (!(eqVs as bs).2)) w:=by
 have h2:=JiS (P:=P) (fs:=flds P t) h2
 unfold Jei at h1
 unfold flds at h2
 cases hu:P.underlying t with
 | none=>rw[hu]at h1; cases h1
 | some D =>
  rw[hu]at h1 h2
  cases D with
  | struct fs =>
   simp only[Bool.and_eq_true,Bool.not_eq_true']at h1
   obtain⟨⟨⟨⟨g0,g1⟩,g2⟩,g3⟩,_⟩:=h1
   have h3:fs.toList≠[]:=by simpa using g0
   have hfs:P.fieldsOf t=fs:=by simp[Program.fieldsOf,hu]
   have e1:(Op.equal t (.agg ⟨as⟩) (.agg ⟨bs⟩)).run P w=.ok (eqVs as bs).2 w:=by
    show(Op.equalIn (9999+1) t _ _).run P w=_
    rw[run_equalIn_struct w 9999 t _ _ (by rw[hfs]; exact hu) g2,hfs]
    exact JbA 9998 _ _ w fs.toList 0 as bs g1 h3 (fun i hi=>by simp) (fun i hi=>by simp) h2 h4
   constructor <;> simp[eqGuard,Sem.run_bind,run_program,g3,Go.binOp,e1]
  | _=>simp at h1
def KO:AV→Nat×Bool
 | .c (.ex (.slice o _ _) _)=>(1,o.isNone)
 | .c (.pt _ _)=>(2,false)
 | .c (.op p _ _)=>(2,!p)
 | .c (.d (.ne b))=>(4,b)
 | .c (.os _ _ _ _)=>(1,false)
 | _=>(0,false)
def nilP:AV→Prop
 | .c (.os _ _ _ len)=>0<len
 | _=>True
def ZF:Operand→Nat
 | .const (.slice none _ _)=>1
 | .const (.pointer none)=>2
 | .const .nilIface=>4
 | _=>3
def JaI(P:Program)(t:TypeId):Nat:=match P.underlying t with | some (.slice _)=>1 | some (.pointer _)=>2 | some (.interface _)=>4 | _=>0
def ZX(P:Program)(h:Hp)(op:BinOp)(t:TypeId)(x:AV):AR :=
 match op with
 | .eql=>⟨JaI P t=(KO x).1∧nilP x,.c (.d (.v (.bool (KO x).2))),h⟩
 | .neq=>⟨JaI P t=(KO x).1∧nilP x,.c (.d (.v (.bool (!(KO x).2)))),h⟩
 | _=>.bad h
theorem Jke{P:Program}{t el:TypeId}(hu:P.underlying t=some (.slice el))(d:Nat)(o:Option Addr)(n c n' c':Nat)(w:World):(Op.equalIn (d+1) t (.slice o n c) (.slice none n' c')).run P w=.ok o.isNone w:=by
 cases o <;> simp only[Op.equalIn,Sem.run_bind,run_underlying hu,Result.andThen_ok,Sem.run_pure,Option.isNone]
theorem JcL{P:Program}{t el:TypeId}(hu:P.underlying t=some (.slice el))(o:Option Addr)(n c n' c':Nat)(w:World):(Op.equal t (.slice o n c) (.slice none n' c')).run P w=.ok o.isNone w:=Jke hu 9999 o n c n' c' w
theorem JkU{P:Program}{t el:TypeId}(hu:P.underlying t=some (.pointer el))(d:Nat)(a:Option Addr)(w:World):(Op.equalIn (d+1) t (.pointer a) (.pointer none)).run P w=.ok a.isNone w:=by
 cases a <;> simp only[Op.equalIn,Sem.run_bind,run_underlying hu,Result.andThen_ok,Sem.run_pure,Option.isNone]
theorem Jif{P:Program}{t el:TypeId}(hu:P.underlying t=some (.pointer el))(a:Option Addr)(w:World):(Op.equal t (.pointer a) (.pointer none)).run P w=.ok a.isNone w:=JkU hu 9999 a w
theorem Jmn{P:Program}{e:Env}{a:AV}{v:Value}{t:TypeId}{yo:Operand}(hab:(KO a).1=ZF yo)(ht:JaI P t=(KO a).1)(hnp:nilP a)(h1:RA e a v)(ac:Act)(w:World)(xo:Operand):
  (do eqGuard .eql t xo yo v (ac.eval yo); binOp .eql t v (ac.eval yo)).run P w=.ok (.bool (KO a).2) w∧(do eqGuard .neq t xo yo v (ac.eval yo); binOp .neq t v (ac.eval yo)).run P w=.ok (.bool (!(KO a).2)) w:=by
 unfold JaI at ht
 unfold ZF at hab
 split at hab
 ·simp only[Act.eval]
  unfold KO at hab ht ⊢
  split at hab
  ·obtain⟨rfl,_⟩:=h1
   simp only at ht ⊢
   cases hu:P.underlying t with
   | none=>rw[hu]at ht; cases ht
   | some D =>
    rw[hu]at ht
    cases D <;> try (simp at ht; done)
    constructor
    ·simp only[eqGuard,Sem.run_bind,Go.binOp,Result.andThen_ok,JcL hu,Sem.run_pure,reduceCtorEq,Bool.not_true,if_false,Bool.false_eq_true]
    ·simp only[eqGuard,Sem.run_bind,Go.binOp,Result.andThen_ok,JcL hu,Sem.run_pure,reduceCtorEq,Bool.not_true,if_false,Bool.false_eq_true]
  ·cases hab
  ·cases hab
  ·cases hab
  ·rename_i n sz off len
   have hnp:0<len:=hnp
   rcases h1 with⟨h0,_⟩|⟨b,cap,_,_,rfl,_⟩
   ·omega
   cases hu:P.underlying t with
   | none=>rw[hu]at ht; cases ht
   | some D =>
    rw[hu]at ht
    cases D <;> try (simp at ht; done)
    constructor
    ·simp only[eqGuard,Sem.run_bind,Go.binOp,Result.andThen_ok,JcL hu,Sem.run_pure,reduceCtorEq,Bool.not_true,if_false,Bool.false_eq_true,Option.isNone]
    ·simp only[eqGuard,Sem.run_bind,Go.binOp,Result.andThen_ok,JcL hu,Sem.run_pure,reduceCtorEq,Bool.not_true,if_false,Bool.false_eq_true,Option.isNone]
  ·cases hab
 ·simp only[Act.eval]
  have hp:∀ el,P.underlying t=some (.pointer el)→∀ x:Option Addr,(do eqGuard .eql t xo (.const (.pointer none)) (.pointer x) (.pointer none); binOp .eql t (.pointer x) (.pointer none)).run P w=.ok (.bool x.isNone) w∧(do eqGuard .neq t xo (.const (.pointer none)) (.pointer x) (.pointer none); binOp .neq t (.pointer x) (.pointer none)).run P w=.ok (.bool (!x.isNone)) w:=by
   intro el hu x
   constructor
   ·simp only[eqGuard,Sem.run_bind,Go.binOp,Result.andThen_ok,Jif hu,Sem.run_pure,reduceCtorEq,Bool.not_true,if_false,Bool.false_eq_true]
   ·simp only[eqGuard,Sem.run_bind,Go.binOp,Result.andThen_ok,Jif hu,Sem.run_pure,reduceCtorEq,Bool.not_true,if_false,Bool.false_eq_true]
  have hpt:JaI P t=2→∃ el,P.underlying t=some (.pointer el):=by
   intro h
   unfold JaI at h
   cases hu:P.underlying t with
   | none=>rw[hu]at h; cases h
   | some D =>
    rw[hu]at h
    cases D <;> first | exact⟨_,rfl⟩ | (simp at h; done)
  unfold KO at hab ht ⊢
  split at hab
  ·cases hab
  ·obtain⟨el,hu⟩:=hpt ht
   obtain⟨b,_,rfl⟩:=h1
   exact hp el hu _
  ·obtain⟨el,hu⟩:=hpt ht
   obtain⟨_,h1⟩:=h1
   rcases h1 with⟨rfl,rfl⟩|⟨rfl,b,_,rfl⟩
   ·exact hp el hu _
   ·exact hp el hu _
  ·cases hab
  ·cases hab
  ·cases hab
 ·simp only[Act.eval]
  have hit:JaI P t=4→∃ ms,P.underlying t=some (.interface ms):=by
   intro h
   unfold JaI at h
   cases hu:P.underlying t with
   | none=>rw[hu]at h; cases h
   | some D =>
    rw[hu]at h
    cases D <;> first | exact⟨_,rfl⟩ | (simp at h; done)
  unfold KO at hab ht ⊢
  split at hab
  ·cases hab
  ·cases hab
  ·cases hab
  ·obtain⟨ms,hu⟩:=hit ht
   have he:∀ u v,(Op.equal t (.iface u v) .nilIface).run P w=.ok false w:=by
    intro u v
    show(Op.equalIn (9999+1) t _ _).run P w=_
    unfold Op.equalIn
    simp only[Sem.run_bind,run_underlying hu,Result.andThen_ok]; rfl
   have hn:(Op.equal t .nilIface .nilIface).run P w=.ok true w:=by
    show(Op.equalIn (9999+1) t _ _).run P w=_
    unfold Op.equalIn
    simp only[Sem.run_bind,run_underlying hu,Result.andThen_ok]; rfl
   rename_i bb
   have h1:RD e.w e.S (.one (.ne bb) v):=h1
   cases h1 with
   | ne0=>constructor <;> simp[eqGuard,Sem.run_bind,Go.binOp,hn,Sem.run_pure]
   | ne1 u x=>constructor <;> simp[eqGuard,Sem.run_bind,Go.binOp,he,Sem.run_pure]
  ·cases hab
  ·cases hab
 ·exfalso
  unfold KO at hab
  split at hab <;> cases hab
def aBin(P:Program)(σ:Nat→AV)(h:Hp)(op:BinOp)(t:TypeId)(x y:Operand):AR :=
 match evA σ x,evA σ y with
 | .c (.d (.v a)),.c (.d (.v b))=>⟨(abin P op t a b).1,.c (.d (.v (abin P op t a b).2)),h⟩
 | a,b=>if(KO a).1=ZF y then ZX P h op t a else JaS P h op t a b
theorem Jm4{Γ:Ctx}{σ:Nat→AV}{h:Hp}(o:Oper)(op:BinOp)(t:TypeId)(x y:Operand)(yt:TypeId)(ho:o.op=.binOp op t x y yt)(hp:(aBin Γ.P σ h op t x y).pre):
  VR Γ o σ h (aBin Γ.P σ h op t x y).val (aBin Γ.P σ h op t x y).h:=by
 unfold aBin at *
 split at hp
 ·rename_i u v hx hy
  refine VR.of_run fun a e hop hw=>⟨_,?_,.v _⟩
  have h1:=hop x (by simp[ho,Op.operands])
  have h2:=hop y (by simp[ho,Op.operands])
  rw[hx]at h1; rw[hy]at h2
  have h1:=R1.vInv h1
  have h2:=R1.vInv h2
  have:=Jlt Γ.P op t x y u v e.w hp
  simp only[execOp,ho,h1,h2]
  rw[Sem.run_bind,this]
  rfl
 ·split at hp
  ·rename_i hnil
   simp only[if_pos hnil]
   have key:∀ a e,Zn o σ a e→(JaI Γ.P t=(KO (evA σ x)).1∧nilP (evA σ x))→_:=fun a e hop ht =>
    Jmn (P:=Γ.P) hnil ht.1 ht.2 (hop x (by simp[ho,Op.operands])) a e.w x
   unfold ZX at hp ⊢
   split at hp
   ·refine VR.of_run fun a e hop hw=>⟨_,?_,.v _⟩
    have:=(key a e hop hp).1
    simp only[execOp,ho]
    rw[Sem.run_bind,this]
    rfl
   ·refine VR.of_run fun a e hop hw=>⟨_,?_,.v _⟩
    have:=(key a e hop hp).2
    simp only[execOp,ho]
    rw[Sem.run_bind,this]
    rfl
   ·exact hp.elim
  rename_i hnil
  simp only[if_neg hnil]
  unfold JaS at hp ⊢
  split at hp
  ·rename_i as bs ha hb
   refine VR.of_run fun a e hop hw=>⟨_,?_,.v _⟩
   have h1:=Jcs ha (hop x (by simp[ho,Op.operands]))
   have h2:=Jcs hb (hop y (by simp[ho,Op.operands]))
   have:=(Jg6 as bs e.w hp.1 hp.2.1 hp.2.2 x y).1
   simp only[execOp,ho,h1,h2]
   rw[Sem.run_bind,this]
   rfl
  ·rename_i as bs ha hb
   refine VR.of_run fun a e hop hw=>⟨_,?_,.v _⟩
   have h1:=Jcs ha (hop x (by simp[ho,Op.operands]))
   have h2:=Jcs hb (hop y (by simp[ho,Op.operands]))
   have:=(Jg6 as bs e.w hp.1 hp.2.1 hp.2.2 x y).2
   simp only[execOp,ho,h1,h2]
   rw[Sem.run_bind,this]
   rfl
  ·exact hp.elim
def aUn(σ:Nat→AV)(h:Hp)(op:UnOp)(x:Operand):AR :=
 match evA σ x with
 | .c (.d (.v a))=>⟨(aun op a).1,.c (.d (.v (aun op a).2)),h⟩
 | _=>.bad h
theorem Jns{Γ:Ctx}{σ:Nat→AV}{h:Hp}(o:Oper)(op:UnOp)(t:TypeId)(x:Operand)(ho:o.op=.unOp op t x)(hp:(aUn σ h op x).pre):
  VR Γ o σ h (aUn σ h op x).val (aUn σ h op x).h:=by
 unfold aUn at *
 split at hp
 ·rename_i u hx
  refine VR.of_run fun a e hop hw=>⟨_,?_,.v _⟩
  have h1:=hop x (by simp[ho,Op.operands])
  rw[hx]at h1
  have h1:=R1.vInv h1
  simp only[execOp,ho,h1]
  rw[Sem.run_bind,JmJ _ _ _ _ hp]
  rfl
 ·exact hp.elim
def V6(P:Program)(σ:Nat→AV)(h:Hp)(s:TypeId)(x:Operand)(f:Nat):AR :=
 match evA σ x with
 | .c (.pt n off)=>⟨KR P s f=true,.c (.pt n (off+tOff P s f)),h⟩
 | .c (.pp l)=>⟨KR P s f=true,.c (.pp (l.drop (tOff P s f))),h⟩
 | .c (.pa n sz i off)=>⟨KR P s f=true,.c (.pa n sz i (off+tOff P s f)),h⟩
 | _=>.bad h
theorem Jco{P:Program}{s:TypeId}{f:Nat}(h:KR P s f=true)(b o:Nat)(w:World):
  (Instr.fieldAt s (.pointer (some ⟨b,o,none⟩)) f).run P w=.ok (.pointer (some ⟨b,o+tOff P s f,none⟩)) w:=by
 unfold KR at h
 split at h
 ·rename_i fs hu
  simp only[Bool.and_eq_true,Option.isSome_iff_exists,bne_iff_ne,ne_eq]at h
  obtain⟨⟨⟨⟨fd,hf⟩,hz⟩,⟨d,hd⟩⟩,⟨i,hi⟩⟩:=h
  simp only[hf,Option.map_some,Option.getD_some]at hz hd hi
  have hs:=Kk P fd.type w (by simp[Kn,hi,hd])
  simp only[Instr.fieldAt,Sem.run_bind,run_underlying hu,Result.andThen_ok,hf,Instr.sureAddr,fieldPlace,hs,hz,if_false,Sem.run_pure,tOff,hu,Option.map_some,Option.getD_some]
  simp only[Addr.add]
  split <;> simp_all
 ·simp at h
theorem Jil{Γ:Ctx}{σ:Nat→AV}{h:Hp}(o:Oper)(s:TypeId)(x:Operand)(f:Nat)(ho:o.op=.fieldAddr s x f)(hp:(V6 Γ.P σ h s x f).pre):
  VR Γ o σ h (V6 Γ.P σ h s x f).val (V6 Γ.P σ h s x f).h:=by
 unfold V6 at *
 split at hp
 ·rename_i n off hx
  refine VR.of_run fun a e hop hw=>?_
  have h1:=hop x (by simp[ho,Op.operands])
  rw[hx]at h1
  obtain⟨b,h2,h3⟩:=h1
  refine⟨_,?_,b,h2,rfl⟩
  simp only[execOp,ho,h3]
  rw[Sem.run_bind,Jco hp]
  rfl
 ·rename_i l hx
  refine VR.of_run fun a e hop hw=>?_
  have h1:=hop x (by simp[ho,Op.operands])
  rw[hx]at h1
  obtain⟨b,of,vs,h2,h3,h4⟩:=h1
  refine⟨_,?_,b,of+tOff Γ.P s f,vs.drop (tOff Γ.P s f),rfl,h3.drop _,fun i y hy=>?_⟩
  ·simp only[execOp,ho,h2]
   rw[Sem.run_bind,Jco hp]
   rfl
  ·have:=h4 (tOff Γ.P s f+i) y (by simpa using hy)
   simpa [Nat.add_assoc] using this
 ·rename_i n sz i off hx
  refine VR.of_run fun a e hop hw=>?_
  have h1:=hop x (by simp[ho,Op.operands])
  rw[hx]at h1
  obtain⟨b,h2,h3⟩:=h1
  refine⟨_,?_,b,h2,rfl⟩
  simp only[execOp,ho,h3]
  rw[Sem.run_bind,Jco hp,Nat.add_assoc]
  rfl
 ·exact hp.elim
end Go.Proofs.YtfkhlbhjhdpkoaaDoor
namespace Go.Proofs.YtfkhlbhjhdpkoaaDoor
open Go.RowKit
def Jj2(P:Program)(t:TypeId):Nat:=match P.underlying t with | some (.array n _)=>n | _=>0
def tAEl(P:Program)(t:TypeId):TypeId:=match P.underlying t with | some (.array _ e)=>e | _=>0
def tAOk(P:Program)(t:TypeId):Bool:=match P.underlying t with | some (.array _ e)=>(P.info? e).isSome && (P.underlying e).isSome | _=>false
def V7(P:Program)(σ:Nat→AV)(h:Hp)(t:TypeId)(x ix:Operand):AR :=
 match slD (evA σ x),evA σ ix with
 | some (sz,l),.c (.d (.v (.int _ i)))=>⟨JM P t=true∧sz=Jl P (Jk P t)∧0≤i∧i.toNat<l.length,.c (.pp (l.getD i.toNat default).cells),h⟩
 | none,.c (.d (.v (.int _ i)))=>match evA σ x with
  | .c (.os n sz off len)=>⟨JM P t=true∧sz=Jl P (Jk P t)∧0≤i∧i.toNat<len,.c (.pa n sz (off+i.toNat) 0),h⟩
  | .c (.pt n off)=>⟨tAOk P t=true∧0≤i∧i.toNat<Jj2 P t,.c (.pt n (off+i.toNat * Jl P (tAEl P t))),h⟩
  | _=>.bad h
 | _,_=>.bad h
theorem Jhx{Γ:Ctx}{σ:Nat→AV}{h:Hp}(o:Oper)(t:TypeId)(x ix:Operand)(ho:o.op=.indexAddr t x ix)(hp:(V7 Γ.P σ h t x ix).pre):
  VR Γ o σ h (V7 Γ.P σ h t x ix).val (V7 Γ.P σ h t x ix).h:=by
 unfold V7 at *
 split at hp
 ·rename_i sz l k i hx hi
  obtain⟨ht,rfl,h0,hl⟩:=hp
  refine VR.of_run fun a e hop hw=>?_
  have h1:=(hop x (by simp[ho,Op.operands])).slD hx
  have h2:=hop ix (by simp[ho,Op.operands])
  rw[hi]at h2
  have h2:=R1.vInv h2
  unfold JM at ht
  split at ht
  ·rename_i el hu
   simp only[Bool.and_eq_true]at ht
   have he:Jk Γ.P t=el:=by simp[Jk,hu]
   rw[he]at h1
   rcases h1.slInv with⟨rfl,_⟩|⟨vs,b,of,cap,h3,h4,h5,h6,h7⟩
   ·simp at hl
   ·have hd:l[i.toNat]? = some (l.getD i.toNat default):=by simp[List.getD_eq_getElem?_getD,List.getElem?_eq_getElem hl]
    have hfl:=Jd8 h6 _ _ hd
    have hs:=Kk Γ.P el e.w (by simp[Kn,ht])
    refine⟨.pointer (some ⟨b,of+i.toNat * Jl Γ.P el,none⟩),?_,b,_,(vs.drop (i.toNat * Jl Γ.P el)).take (Jl Γ.P el),rfl,?_,fun j y hy=>?_⟩
    ·simp only[execOp,ho,h2,h3,Instr.indexAt,asIntOf,Sem.run_bind,Sem.run_pure,Result.andThen_ok,run_underlying hu,h0,true_and,hs]
     rw[Sem.run_ite,if_pos (by omega)]
     simp only[Sem.run_bind,hs,Result.andThen_ok,Sem.run_pure,Addr.add]
     split <;> simp_all
    ·have:=(h4.drop (i.toNat * Jl Γ.P el)).take (Jl Γ.P el)
     rwa [hfl]at this
    ·rw[List.getElem?_take]at hy
     split at hy
     ·rw[List.getElem?_drop]at hy
      have:=h5 _ _ hy
      simpa [Nat.add_assoc] using this
     ·cases hy
  ·simp at ht
 ·rename_i k i hx hi
  split at hp
  ·rename_i n sz off len hxe
   obtain⟨ht,rfl,h0,hl⟩:=hp
   refine VR.of_run fun a e hop hw=>?_
   have h1:=hop x (by simp[ho,Op.operands])
   rw[hxe]at h1
   have h2:=hop ix (by simp[ho,Op.operands])
   rw[hi]at h2
   have h2:=R1.vInv h2
   unfold JM at ht
   split at ht
   ·rename_i el hu
    simp only[Bool.and_eq_true]at ht
    have he:Jk Γ.P t=el:=by simp[Jk,hu]
    rw[he]
    have hs:=Kk Γ.P el e.w (by simp[Kn,ht])
    rcases h1 with⟨hl0,_⟩|⟨b,cap,k1,k2,h3,k4⟩
    ·omega
    ·refine⟨.pointer (some ⟨b,(off+i.toNat) * Jl Γ.P el,none⟩),?_,b,k1,rfl⟩
     rw[Nat.add_mul]
     simp only[execOp,ho,h2,h3,Instr.indexAt,asIntOf,Sem.run_bind,Sem.run_pure,Result.andThen_ok,run_underlying hu,h0,true_and]
     rw[Sem.run_ite,if_pos (by omega)]
     simp only[Sem.run_bind,hs,Result.andThen_ok,Sem.run_pure,Addr.add]
     split <;> simp_all
   ·simp at ht
  ·rename_i n off hxe
   obtain⟨ht,h0,hl⟩:=hp
   refine VR.of_run fun a e hop hw=>?_
   have h1:=hop x (by simp[ho,Op.operands])
   rw[hxe]at h1
   have h2:=hop ix (by simp[ho,Op.operands])
   rw[hi]at h2
   have h2:=R1.vInv h2
   unfold tAOk at ht
   split at ht
   ·rename_i m el hu
    simp only[Bool.and_eq_true]at ht
    have he:tAEl Γ.P t=el:=by simp[tAEl,hu]
    have hn:Jj2 Γ.P t=m:=by simp[Jj2,hu]
    rw[he]; rw[hn]at hl
    have hs:=Kk Γ.P el e.w (by simp[Kn,ht])
    obtain⟨b,k1,h3⟩:=h1
    refine⟨.pointer (some ⟨b,off+i.toNat * Jl Γ.P el,none⟩),?_,b,k1,rfl⟩
    have h4:(Instr.sureAddr (.pointer (some ⟨b,off,none⟩))).run Γ.P e.w=.ok ⟨b,off,none⟩ e.w:=rfl
    simp only[execOp,ho,h2,h3,Instr.indexAt,asIntOf,Sem.run_bind,Sem.run_pure,Result.andThen_ok,run_underlying hu,h4,h0,true_and]
    rw[Sem.run_ite,if_pos (by omega)]
    simp only[Sem.run_bind,hs,Result.andThen_ok,Sem.run_pure,Addr.add]
    split <;> simp_all
   ·simp at ht
  ·exact hp.elim
 ·exact hp.elim
def Ja2(P:Program)(σ:Nat→AV)(h:Hp)(t:TypeId)(x ix:Operand):AR :=
 match evA σ x,evA σ ix with
 | .c (.d (.v (.string s))),.c (.d (.v (.int _ i)))=>⟨P.underlying t=some .string∧0≤i∧i.toNat<(bl s).length,.c (.d (.v (.int .u8 ((bl s).getD i.toNat 0).toNat))),h⟩
 | _,_=>.bad h
theorem Jlz{Γ:Ctx}{σ:Nat→AV}{h:Hp}(o:Oper)(t:TypeId)(x ix:Operand)(ho:o.op=.index t x ix)(hp:(Ja2 Γ.P σ h t x ix).pre):
  VR Γ o σ h (Ja2 Γ.P σ h t x ix).val (Ja2 Γ.P σ h t x ix).h:=by
 unfold Ja2 at *
 split at hp
 ·rename_i s k i hx hi
  obtain⟨ht,h0,hl⟩:=hp
  refine VR.of_run fun a e hop hw=>⟨_,?_,.v _⟩
  have h1:=hop x (by simp[ho,Op.operands])
  rw[hx]at h1
  have h1:=R1.vInv h1
  have h2:=hop ix (by simp[ho,Op.operands])
  rw[hi]at h2
  have h2:=R1.vInv h2
  have hg:s[i.toNat]? = some ((bl s).getD i.toNat 0):=by
   have hl':i.toNat<s.size:=by rw[Jax]; exact hl
   rw[getElem?_pos s i.toNat hl']
   simp only[List.getD_eq_getElem?_getD,List.getElem?_eq_getElem hl,Option.getD_some]
   rfl
  simp only[execOp,ho,h1,h2,Instr.index,asIntOf,Sem.run_bind,Sem.run_pure,Result.andThen_ok,run_underlying ht,h0,if_true,hg]
 ·exact hp.elim
def aLen(P:Program)(σ:Nat→AV)(h:Hp)(t:TypeId)(x:Operand):AR :=
 match evA σ x with
 | .c (.d (.v (.string s)))=>⟨P.underlying t=some .string,.c (.d (.v (.int .i64 ((bl s).length)))),h⟩
 | .c (.d (.sl _ l))=>⟨JM P t=true,.c (.d (.v (.int .i64 (l.length)))),h⟩
 | .c (.sl _ l _)=>⟨JM P t=true,.c (.d (.v (.int .i64 (l.length)))),h⟩
 | .c (.ex _ (.sl _ l))=>⟨JM P t=true,.c (.d (.v (.int .i64 (l.length)))),h⟩
 | .c (.fs _ l)=>⟨JM P t=true,.c (.d (.v (.int .i64 (l.length)))),h⟩
 | .c (.os _ _ _ len)=>⟨JM P t=true,.c (.d (.v (.int .i64 len))),h⟩
 | _=>.bad h
theorem Jal{P:Program}{t:TypeId}{v:Value}{w:World}{S:Nat→Nat→Prop}{sz:Nat}{l:List D}(ht:JM P t=true)(h:R1 w S (.sl sz l) v)(ty:TypeId):
  (Builtin.len_ #[t] ty #[v]).run P w=.ok (.int .i64 l.length) w:=by
 unfold JM at ht
 split at ht
 ·rename_i el hu
  rcases h.slInv with⟨rfl,o,rfl⟩|⟨vs,b,of,cap,rfl,_⟩ <;> simp[Builtin.len_,run_underlying hu,goInt]
 ·simp at ht
theorem JmS{Γ:Ctx}{σ:Nat→AV}{h:Hp}(o:Oper)(t:TypeId)(x:Operand)(ho:o.op=.call { callee:=.builtin .len,args:=#[x],argTypes:=#[t] })(hp:(aLen Γ.P σ h t x).pre):
  VR Γ o σ h (aLen Γ.P σ h t x).val (aLen Γ.P σ h t x).h:=by
 have hmem:x∈o.op.operands:=by simp[ho,Op.operands,Call.operands]
 have hex:∀ (a:Act) (w:World) (r:Value),(Builtin.len_ #[t] o.type #[a.eval x]).run Γ.P w=.ok r w→(execOp a.eval o).run Γ.P w=.ok (.value r) w:=by
  intro a w r hr
  simp only[execOp,ho,resolve,invoke,builtin,Sem.run_bind,Sem.run_pure,Result.andThen_ok,List.map_toArray,List.map_cons,List.map_nil,hr]
 unfold aLen at *
 split at hp
 ·rename_i s hx
  refine VR.of_run fun a e hop hw=>⟨_,hex _ _ _ ?_,.v _⟩
  have h1:=hop x hmem
  rw[hx]at h1
  have h1:=R1.vInv h1
  simp[Builtin.len_,h1,run_underlying hp,goInt,Jax]
 ·rename_i sz l hx
  refine VR.of_run fun a e hop hw=>⟨_,hex _ _ _ ?_,.v _⟩
  have h1:=hop x hmem
  rw[hx]at h1
  exact Jal hp h1 _
 ·rename_i sz l k hx
  refine VR.of_run fun a e hop hw=>⟨_,hex _ _ _ ?_,.v _⟩
  have h1:=hop x hmem
  rw[hx]at h1
  exact Jal hp h1.1 _
 ·rename_i y sz l hx
  refine VR.of_run fun a e hop hw=>⟨_,hex _ _ _ ?_,.v _⟩
  have h1:=hop x hmem
  rw[hx]at h1
  exact Jal hp h1.2 _
 ·rename_i sz l hx
  refine VR.of_run fun a e hop hw=>⟨_,hex _ _ _ ?_,.v _⟩
  have h1:=hop x hmem
  rw[hx]at h1
  exact Jal hp h1.1 _
 ·rename_i n sz off len hx
  refine VR.of_run fun a e hop hw=>⟨_,hex _ _ _ ?_,.v _⟩
  have h1:=hop x hmem
  rw[hx]at h1
  unfold JM at hp
  split at hp
  ·rename_i el hu
   rcases h1 with⟨rfl,o,h⟩|⟨b,cap,_,_,h,_⟩ <;> rw[h] <;> simp[Builtin.len_,run_underlying hu,goInt]
  ·simp at hp
 ·exact hp.elim
def VT(σ:Nat→AV)(h:Hp)(mx:Bool)(x y:Operand):AR :=
 match evA σ x,evA σ y with
 | .c (.d (.v (.int k a))),.c (.d (.v (.int k' b)))=>⟨k=k',.c (.d (.v (.int k (if mx then(if b > a then b else a) else(if b<a then b else a))))),h⟩
 | _,_=>.bad h
theorem JgS{Γ:Ctx}{σ:Nat→AV}{h:Hp}(o:Oper)(mx:Bool)(ts:Array TypeId)(x y:Operand)(ho:o.op=.call { callee:=.builtin (if mx then .max else .min),args:=#[x,y],argTypes:=ts })(hp:(VT σ h mx x y).pre):
  VR Γ o σ h (VT σ h mx x y).val (VT σ h mx x y).h:=by
 unfold VT at *
 split at hp
 ·rename_i k a' k' b' hx hy
  refine VR.of_run fun a e hop hw=>⟨_,?_,.v _⟩
  have h1:=hop x (by simp[ho,Op.operands,Call.operands])
  have h2:=hop y (by simp[ho,Op.operands,Call.operands])
  rw[hx]at h1; rw[hy]at h2
  have h1:=R1.vInv h1
  have h2:=R1.vInv h2
  cases mx <;> simp[execOp,ho,resolve,invoke,builtin,h1,h2,Builtin.min_,Builtin.max_,Builtin.min2,Builtin.max2]
 ·exact hp.elim
def X5(σ:Nat→AV)(h:Hp)(x:Operand)(i:Nat):AR :=
 match evA σ x with
 | .c (.d (.tu l))=>⟨i<l.length,.c (.d (l.getD i default)),h⟩
 | .tu l=>⟨i<l.length,AV.comp (l.getD i (false,[])),h⟩
 | _=>.bad h
theorem JjL{Γ:Ctx}{σ:Nat→AV}{h:Hp}(o:Oper)(x:Operand)(i:Nat)(ho:o.op=.extract x i)(hp:(X5 σ h x i).pre):
  VR Γ o σ h (X5 σ h x i).val (X5 σ h x i).h:=by
 unfold X5 at *
 split at hp
 ·rename_i l hx
  refine VR.of_run fun a e hop hw=>?_
  have h1:=hop x (by simp[ho,Op.operands])
  rw[hx]at h1
  obtain⟨vs,h1,h2⟩:=R1.tuInv h1
  obtain⟨v,h3,h4⟩:=h2.get i (l.getD i default) (by simp[List.getD_eq_getElem?_getD,List.getElem?_eq_getElem hp])
  refine⟨v,?_,h4⟩
  simp[execOp,ho,h1,Instr.extract,h3]
 ·rename_i l hx
  refine VR.of_run fun a e hop hw=>?_
  have h1:=hop x (by simp[ho,Op.operands])
  rw[hx]at h1
  obtain⟨vs,h1,h2⟩:=h1
  obtain⟨v,h3,h4⟩:=h2.get i hp
  refine⟨v,?_,h4⟩
  simp[execOp,ho,h1,Instr.extract,h3]
 ·exact hp.elim
def XH(σ:Nat→AV)(h:Hp)(x:Operand):AR :=
 match evA σ x with
 | .c (.pt n off)=>⟨True,.c (.pt n off),h⟩
 | .c (.pp l)=>⟨True,.c (.pp l),h⟩
 | .c (.pa n sz i off)=>⟨True,.c (.pa n sz i off),h⟩
 | _=>.bad h
theorem JiC{Γ:Ctx}{σ:Nat→AV}{h:Hp}(o:Oper)(x:Operand)(ho:o.op=.nilCheck x)(hp:(XH σ h x).pre):
  VR Γ o σ h (XH σ h x).val (XH σ h x).h:=by
 unfold XH at *
 split at hp
 ·rename_i n off hx
  refine VR.of_run fun a e hop hw=>⟨a.eval x,?_,?_⟩
  ·have h1:=hop x (by simp[ho,Op.operands])
   rw[hx]at h1
   obtain⟨b,h2,h3⟩:=h1
   simp[execOp,ho,h3]
  ·have h1:=hop x (by simp[ho,Op.operands])
   rwa [hx]at h1
 ·rename_i l hx
  refine VR.of_run fun a e hop hw=>⟨a.eval x,?_,?_⟩
  ·have h1:=hop x (by simp[ho,Op.operands])
   rw[hx]at h1
   obtain⟨b,of,vs,h2,h3⟩:=h1
   simp[execOp,ho,h2]
  ·have h1:=hop x (by simp[ho,Op.operands])
   rwa [hx]at h1
 ·rename_i n sz i off hx
  refine VR.of_run fun a e hop hw=>⟨a.eval x,?_,?_⟩
  ·have h1:=hop x (by simp[ho,Op.operands])
   rw[hx]at h1
   obtain⟨b,h2,h3⟩:=h1
   simp[execOp,ho,h3]
  ·have h1:=hop x (by simp[ho,Op.operands])
   rwa [hx]at h1
 ·exact hp.elim
def Ka(P:Program)(h:Hp)(t:TypeId)(row:List C)(off:Nat):AR :=
 ⟨Kn P t=true∧off+Jl P t≤row.length∧(tAgg P t=false→off<row.length),if tAgg P t then .ag ((row.drop off).take (Jl P t)) else .c (row.getD off default),h⟩
def Xs(P:Program)(h:Hp)(t:TypeId)(sz i off:Nat):Option (List C)→AR
 | some [.arr sz' l]=>⟨sz=sz'∧i<l.length∧(Ka P h t ((l.getD i default).cells.map C.d) off).pre,(Ka P h t ((l.getD i default).cells.map C.d) off).val,h⟩
 | some [.arr sz' l,c]=>⟨sz=sz'∧off=0∧i=l.length∧(Ka P h t [c] 0).pre,(Ka P h t [c] 0).val,h⟩
 | _=>.bad h
def Ja3(P:Program)(σ:Nat→AV)(h:Hp)(t:TypeId)(x:Operand):AR :=
 match evA σ x with
 | .c (.pt n off)=>match h.H n with
  | some row=>⟨rowP row=true∧(Ka P h t row off).pre,(Ka P h t row off).val,h⟩
  | none=>.bad h
 | .c (.pp l)=>Ka P h t (l.map C.d) 0
 | .c (.pa n sz i off)=>Xs P h t sz i off (h.H n)
 | _=>.bad h
theorem Ja8{P:Program}{h:Hp}{t:TypeId}{row:List C}{off:Nat}{e:Env}{b o:Nat}{vs:List Value}
  (hp:(Ka P h t row off).pre) (hr:RCs e row vs) (hc:∀ i x,vs[i]? = some x→e.w.cell? ⟨b,o+i,none⟩=some x) :
  ∃ v,(Instr.loadAt t (.pointer (some ⟨b,o+off,none⟩))).run P e.w=.ok v e.w∧RA e (Ka P h t row off).val v:=by
 obtain⟨h1,h2,h3⟩:=hp
 have hlen:=hr.length
 simp only[Ka]
 cases hag:tAgg P t with
 | true =>
  have hs:=Kk P t e.w h1
  have hi:=Jdx P t e.w h1
  rw[hag]at hi
  have hl:((vs.drop off).take (Jl P t)).length=Jl P t:=by simp; omega
  have hcells:(loadCells ⟨b,o+off,none⟩ (Jl P t)).run P e.w=.ok ((vs.drop off).take (Jl P t)).toArray e.w:=by
   have:=run_loadCells_list (P:=P) (w:=e.w) ⟨b,o+off,none⟩ ((vs.drop off).take (Jl P t)) (fun j x hx=>by
    rw[List.getElem?_take]at hx
    split at hx
    ·rw[List.getElem?_drop]at hx
     have:=hc _ _ hx
     simp only[Addr.add]
     split
     ·rename_i h0; simpa [h0] using this
     ·simpa [Nat.add_assoc] using this
    ·cases hx)
   rwa [hl]at this
  refine⟨.agg ((vs.drop off).take (Jl P t)).toArray,?_,?_⟩
  ·simp[Instr.loadAt,Instr.sureAddr,loadVar,hi,hs,hcells]
  ·exact⟨_,rfl,(hr.drop off).take _⟩
 | false =>
  have hi:=Jdx P t e.w h1
  rw[hag]at hi
  have hof:=h3 hag
  obtain⟨v,hv,hv'⟩:=hr.get off (row.getD off default) (by simp[List.getD_eq_getElem?_getD,List.getElem?_eq_getElem hof])
  refine⟨v,?_,hv'⟩
  have:=hc _ _ hv
  simp[Instr.loadAt,Instr.sureAddr,loadVar,hi,this]
theorem Jmr{Γ:Ctx}{σ:Nat→AV}{h:Hp}(o:Oper)(t:TypeId)(x:Operand)(ho:o.op=.load t x)(hp:(Ja3 Γ.P σ h t x).pre):
  VR Γ o σ h (Ja3 Γ.P σ h t x).val (Ja3 Γ.P σ h t x).h:=by
 unfold Ja3 at *
 split at hp
 ·rename_i n off hx
  split at hp
  ·rename_i row hrow
   refine VR.of_run fun a e hop hw=>?_
   have h1:=hop x (by simp[ho,Op.operands])
   rw[hx]at h1
   obtain⟨b,h2,h3⟩:=h1
   obtain⟨b',cs,ty,h4,h5,h6,h7,_⟩:=hw.boxAt h2 row hrow (V1 hp.1)
   rw[h2]at h4
   simp at h4
   subst h4
   obtain⟨v,h8,h9⟩:=Ja8 (b:=b) (o:=0) hp.2 (h6.plain hp.1) (fun i x hx=>by simp[World.cell?,h5]; simpa using hx)
   refine⟨v,?_,h9⟩
   simp only[execOp,ho,h3]
   rw[Sem.run_bind]
   simp only[Nat.zero_add]at h8
   rw[h8]; rfl
  ·exact hp.elim
 ·rename_i l hx
  refine VR.of_run fun a e hop hw=>?_
  have h1:=hop x (by simp[ho,Op.operands])
  rw[hx]at h1
  obtain⟨b,of,vs,h2,h3,h4⟩:=h1
  obtain⟨v,h8,h9⟩:=Ja8 (b:=b) (o:=of) hp (RCs.ofD h3) (fun i x hx=>(h4 i x hx).1)
  refine⟨v,?_,h9⟩
  simp only[execOp,ho,h2]
  rw[Sem.run_bind]
  simp only[Nat.add_zero]at h8
  rw[h8]; rfl
 ·rename_i n sz i off hx
  unfold Xs at *
  split at hp
  ·rename_i sz' l hrow
   obtain⟨rfl,hil,hp⟩:=hp
   refine VR.of_run fun a e hop hw=>?_
   have h1:=hop x (by simp[ho,Op.operands])
   rw[hx]at h1
   obtain⟨b,h2,h3⟩:=h1
   obtain⟨b',cs,ty,h4,h5,h6,h7,_⟩:=hw.boxAt h2 _ hrow rfl
   rw[h2]at h4
   simp at h4
   subst h4
   obtain⟨us,ts,zs,cap,k1,k2,k3,k4,k5,k6,k7,k8,k9⟩:=h6
   have hd:l[i]? = some (l.getD i default):=by simp[List.getD_eq_getElem?_getD,List.getElem?_eq_getElem hil]
   have hfl:=Jd8 k3 _ _ hd
   have hr:=(k2.drop (i * sz)).take sz
   rw[hfl]at hr
   obtain⟨v,h8,h9⟩:=Ja8 (b:=b) (o:=i * sz) hp (RCs.ofD hr) (fun j y hy=>by
    rw[List.getElem?_take]at hy
    split at hy
    ·rw[List.getElem?_drop]at hy
     have hlt:i * sz+j<us.length:=(List.getElem?_eq_some_iff.1 hy).1
     simp only[World.cell?,h5]
     have:cs.toList[i * sz+j]? = some y:=by rw[k1,List.append_assoc,List.getElem?_append_left hlt]; exact hy
     simpa using this
    ·cases hy)
   refine⟨v,?_,h9⟩
   simp only[execOp,ho,h3]
   rw[Sem.run_bind,h8]; rfl
  ·rename_i sz' l c hrow
   obtain⟨rfl,rfl,rfl,hp⟩:=hp
   refine VR.of_run fun a e hop hw=>?_
   have h1:=hop x (by simp[ho,Op.operands])
   rw[hx]at h1
   obtain⟨b,h2,h3⟩:=h1
   obtain⟨b',cs,ty,h4,h5,h6,h7,_⟩:=hw.boxAt h2 _ hrow rfl
   rw[h2]at h4
   simp at h4
   subst h4
   obtain⟨us,ts,zs,cap,k1,k2,k3,k4,k5,k6,k7,k8,k9⟩:=h6
   have hz:sz=1:=k5.resolve_left (by simp)
   have hul:us.length=l.length * sz:=by rw[k2.length,Kz k3]
   obtain⟨v,h8,h9⟩:=Ja8 (b:=b) (o:=l.length * sz) hp k4 (fun j y hy=>by
    have hlt:j<ts.length:=(List.getElem?_eq_some_iff.1 hy).1
    simp only[World.cell?,h5]
    have:cs.toList[l.length * sz+j]? = some y:=by
     rw[k1,List.append_assoc,List.getElem?_append_right (by omega),hul,show l.length * sz+j-l.length * sz=j by omega,List.getElem?_append_left hlt]; exact hy
    simpa using this)
   refine⟨v,?_,h9⟩
   simp only[execOp,ho,h3]
   rw[Sem.run_bind,h8]; rfl
  ·exact hp.elim
 ·exact hp.elim
end Go.Proofs.YtfkhlbhjhdpkoaaDoor
namespace Go.Proofs.YtfkhlbhjhdpkoaaDoor
open Go.RowKit
def bnd(σ:Nat→AV)(d:Int):Option Operand→Option Int
 | none=>some d
 | some x=>match evA σ x with
  | .c (.d (.v (.int _ i)))=>some i
  | _=>none
theorem JbX{σ:Nat→AV}{a:Act}{e:Env}{d i:Int}{x:Option Operand}(h:bnd σ d x=some i)
  (ho:∀ y,x=some y→RA e (evA σ y) (a.eval y)):(x=none∧i=d)∨∃ y k,x=some y∧a.eval y=.int k i:=by
 cases x with
 | none=>simp[bnd]at h; exact .inl ⟨rfl,h.symm⟩
 | some y =>
  simp only[bnd]at h
  split at h
  ·rename_i k j hy
   have h1:=ho y rfl
   rw[hy]at h1
   have h1:=R1.vInv h1
   simp at h; subst h
   exact .inr ⟨y,k,rfl,h1⟩
  ·cases h
theorem Ja0{P:Program}{w:World}{σ:Nat→AV}{a:Act}{e:Env}{isS:Bool}{len cap:Nat}{lo hi:Option Operand}{l h:Int}
  (hl:bnd σ 0 lo=some l) (hh:bnd σ len hi=some h) (h0:0≤l) (h1:l≤h) (h2:h≤len) (hc:len≤cap)
  (hlo:∀ y,lo=some y→RA e (evA σ y) (a.eval y)) (hhi:∀ y,hi=some y→RA e (evA σ y) (a.eval y)) :
  (Instr.sliceBounds isS len cap (lo.map a.eval) (hi.map a.eval) none).run P w=.ok (l.toNat,h.toNat,cap) w:=by
 have e1:(match (hi.map a.eval) with | some v=>Instr.sliceBound v cap (if isS then .sliceAcap else .sliceAlen) | none=>pure len:Sem Nat).run P w=.ok h.toNat w:=by
  rcases JbX hh hhi with⟨rfl,rfl⟩|⟨y,k,rfl,hy⟩
  ·simp
  ·simp only[Option.map_some,hy,Instr.sliceBound,asIntOf,Sem.run_bind,Sem.run_pure,Result.andThen_ok]
   rw[if_pos (by omega),Sem.run_pure]
 have e2:(match (lo.map a.eval) with | some v=>Instr.sliceBound v h.toNat .sliceB | none=>pure 0:Sem Nat).run P w=.ok l.toNat w:=by
  rcases JbX hl hlo with⟨rfl,rfl⟩|⟨y,k,rfl,hy⟩
  ·simp
  ·simp only[Option.map_some,hy,Instr.sliceBound,asIntOf,Sem.run_bind,Sem.run_pure,Result.andThen_ok]
   rw[if_pos (by omega),Sem.run_pure]
 unfold Instr.sliceBounds
 simp only[Sem.run_bind,Sem.run_pure,Result.andThen_ok]
 cases hi with
 | none =>
  simp only[Option.map_none,Sem.run_pure,Result.andThen_ok]at e1 ⊢
  cases lo with
  | none=>simp at e1 e2 ⊢; exact⟨e2,e1⟩
  | some y=>simp at e1 e2 ⊢; rw[e1,e2]; simp
 | some z =>
  simp only[Option.map_some]at e1 ⊢
  rw[Sem.run_bind,e1]
  simp only[Result.andThen_ok]
  cases lo with
  | none=>simp at e2 ⊢; exact e2
  | some y=>simp at e2 ⊢; rw[e2]; simp
def JaO(P:Program)(σ:Nat→AV)(h:Hp)(t:TypeId)(x:Operand)(lo hi:Option Operand):AR :=
 match evA σ x with
 | .c (.os n sz off len)=>match bnd σ 0 lo,bnd σ len hi with
  | some l,some k=>⟨JM P t=true∧sz=Jl P (Jk P t)∧0≤l∧l≤k∧k≤len,.c (.os n sz (off+l.toNat) (k.toNat-l.toNat)),h⟩
  | _,_=>.bad h
 | .c (.d (.v (.string s)))=>match bnd σ 0 lo,bnd σ (bl s).length hi with
  | some l,some k=>⟨P.underlying t=some .string∧0≤l∧l≤k∧k≤(bl s).length,.c (.d (.v (str (((bl s).drop l.toNat).take (k.toNat-l.toNat))))),h⟩
  | _,_=>.bad h
 | y=>match slD y with
  | some (sz,m)=>match bnd σ 0 lo,bnd σ m.length hi with
   | some l,some k=>⟨JM P t=true∧sz=Jl P (Jk P t)∧0≤l∧l≤k∧k≤m.length,.c (.d (.sl sz ((m.drop l.toNat).take (k.toNat-l.toNat)))),h⟩
   | _,_=>.bad h
  | none=>.bad h
theorem Jck{sz:Nat}:∀ {l:List D} (n:Nat),(∀ d∈l,d.cells.length=sz)→(l.drop n).flatMap D.cells=(l.flatMap D.cells).drop (n * sz)
 | _,0,_=>by simp
 | [],n+1,_=>by simp
 | d::l,n+1,h=>by
  have h1:=h d (by simp)
  have:=Jck (l:=l) n (fun d hd=>h d (by simp[hd]))
  rw[List.drop_succ_cons,this,List.flatMap_cons,show(n+1) * sz=d.cells.length+n * sz by rw[h1,Nat.add_mul]; omega,List.drop_append]
  have e:List.drop (d.cells.length+n * sz) d.cells=[]:=List.drop_of_length_le (by omega)
  rw[e]; simp
theorem Jbu{sz:Nat}:∀ {l:List D} (n:Nat),(∀ d∈l,d.cells.length=sz)→(l.take n).flatMap D.cells=(l.flatMap D.cells).take (n * sz)
 | _,0,_=>by simp
 | [],n+1,_=>by simp
 | d::l,n+1,h=>by
  have h1:=h d (by simp)
  have:=Jbu (l:=l) n (fun d hd=>h d (by simp[hd]))
  rw[List.take_succ_cons,List.flatMap_cons,this,List.flatMap_cons,show(n+1) * sz=d.cells.length+n * sz by rw[h1,Nat.add_mul]; omega,List.take_append]
  have e:List.take (d.cells.length+n * sz) d.cells=d.cells:=List.take_of_length_le (by omega)
  rw[e]; simp
theorem R1.slice{w:World}{S:Nat→Nat→Prop}{sz:Nat}{m:List D}{vs:List Value}{b o cap l k:Nat}
  (h4:Rn w S (m.flatMap D.cells) vs) (h5:∀ i x,vs[i]? = some x→w.cell? ⟨b,o+i,none⟩=some x∧¬ S b (o+i)) (h6:∀ d∈m,d.cells.length=sz)
  (h1:l≤k) (h2:k≤m.length) (h7:k≤cap) :
  R1 w S (.sl sz ((m.drop l).take (k-l))) (.slice (some ⟨b,o+l * sz,none⟩) (k-l) (cap-l)):=by
 have hlen:((m.drop l).take (k-l)).length=k-l:=by simp; omega
 have hsub:∀ d∈(m.drop l).take (k-l),d.cells.length=sz:=fun d hd=>h6 d (List.mem_of_mem_drop (List.mem_of_mem_take hd))
 have:=RD.sl (w:=w) (S:=S) sz ((m.drop l).take (k-l)) ((vs.drop (l * sz)).take ((k-l) * sz)) b (o+l * sz) (cap-l) (by
  rw[Jbu _ (fun d hd=>h6 d (List.mem_of_mem_drop hd)),Jck _ h6]
  exact(h4.drop _).take _) (fun i x hx=>by
   rw[List.getElem?_take]at hx
   split at hx
   ·rw[List.getElem?_drop]at hx
    have:=h5 _ _ hx
    simpa [Nat.add_assoc] using this
   ·cases hx) hsub (by omega)
 rwa [hlen]at this
theorem Jly{Γ:Ctx}{σ:Nat→AV}{h:Hp}(o:Oper)(t:TypeId)(x:Operand)(lo hi:Option Operand)(ho:o.op=.slice t x lo hi none)(hp:(JaO Γ.P σ h t x lo hi).pre):
  VR Γ o σ h (JaO Γ.P σ h t x lo hi).val (JaO Γ.P σ h t x lo hi).h:=by
 have mx:x∈o.op.operands:=by simp[ho,Op.operands]
 have mlo:∀ y,lo=some y→y∈o.op.operands:=fun y hy=>by subst hy; simp[ho,Op.operands]
 have mhi:∀ y,hi=some y→y∈o.op.operands:=fun y hy=>by subst hy; simp[ho,Op.operands]
 unfold JaO at *
 split at hp
 ·rename_i n sz off len hx
  split at hp
  ·rename_i l k hl hk
   obtain⟨ht,rfl,h0,h1,h2⟩:=hp
   refine VR.of_run fun a e hop hw=>?_
   have e1:=hop x mx
   rw[hx]at e1
   unfold JM at ht
   split at ht
   ·rename_i el hu
    simp only[Bool.and_eq_true]at ht
    have he:Jk Γ.P t=el:=by simp[Jk,hu]
    rw[he]at e1 ⊢
    have hs:=Kk Γ.P el e.w (by simp[Kn,ht])
    rcases e1 with⟨rfl,o',e2⟩|⟨b,cap,k1,k2,e2,k4⟩
    ·have hb:=Ja0 (P:=Γ.P) (w:=e.w) (isS:=true) (len:=0) (cap:=0) (a:=a) (e:=e) hl hk h0 h1 (by simpa using h2) (Nat.le_refl _) (fun y hy=>hop y (mlo y hy)) (fun y hy=>hop y (mhi y hy))
     have hk0:k.toNat=0:=by simp at h2; omega
     have hl0:l.toNat=0:=by simp at h2; omega
     refine⟨.slice o' 0 0,?_,.inl ⟨by omega,o',rfl⟩⟩
     simp only[execOp,ho,e2,Instr.sliceAt,Instr.slice,Sem.run_bind,run_underlying hu,Result.andThen_ok,Option.map_none,hb,hs,Sem.run_pure,hk0,hl0]
     simp
    ·have hb:=Ja0 (P:=Γ.P) (w:=e.w) (isS:=true) (len:=len) (cap:=cap-off) (a:=a) (e:=e) hl hk h0 h1 h2 (by omega) (fun y hy=>hop y (mlo y hy)) (fun y hy=>hop y (mhi y hy))
     by_cases hcl:cap-off=l.toNat
     ·refine⟨.slice (some ⟨b,off * Jl Γ.P el,none⟩) (k.toNat-l.toNat) (cap-off-l.toNat),?_,.inl ⟨by omega,_,by rw[show k.toNat-l.toNat=0 by omega,show cap-off-l.toNat=0 by omega]⟩⟩
      rw[hcl]at hb
      simp only[execOp,ho,e2,Instr.sliceAt,Instr.slice,Sem.run_bind,run_underlying hu,Result.andThen_ok,Option.map_none,hb,hs,Sem.run_pure,hcl,if_true]
     ·refine⟨.slice (some ⟨b,(off+l.toNat) * Jl Γ.P el,none⟩) (k.toNat-l.toNat) (cap-(off+l.toNat)),?_,.inr ⟨b,cap,k1,k2,rfl,by omega⟩⟩
      rw[Nat.add_mul,show cap-(off+l.toNat)=cap-off-l.toNat by omega]
      simp only[execOp,ho,e2,Instr.sliceAt,Instr.slice,Sem.run_bind,run_underlying hu,Result.andThen_ok,Option.map_none,hb,hs,Sem.run_pure,hcl,if_false,Option.map_some,Addr.add]
      split <;> simp_all
   ·simp at ht
  ·exact hp.elim
 ·rename_i s hx
  split at hp
  ·rename_i l k hl hk
   obtain⟨hu,h0,h1,h2⟩:=hp
   refine VR.of_run fun a e hop hw=>⟨_,?_,.v _⟩
   have e1:=hop x mx
   rw[hx]at e1
   have e1:=R1.vInv e1
   have hb:=Ja0 (P:=Γ.P) (w:=e.w) (isS:=false) (len:=(bl s).length) (cap:=(bl s).length) (a:=a) (e:=e) hl hk h0 h1 h2 (Nat.le_refl _) (fun y hy=>hop y (mlo y hy)) (fun y hy=>hop y (mhi y hy))
   have hs:s.size=(bl s).length:=Jax s
   have hex:s.extract l.toNat k.toNat=⟨(((bl s).drop l.toNat).take (k.toNat-l.toNat)).toArray⟩:=by
    apply ByteArray.ext
    rw[ByteArray.data_extract]
    apply Array.ext'
    simp[bl]
   simp only[execOp,ho,e1,Instr.sliceAt,Instr.slice,Sem.run_bind,run_underlying hu,Result.andThen_ok,Option.map_none,Option.isSome_none,Bool.false_eq_true,if_false,hs,hb,Sem.run_pure,hex]
  ·exact hp.elim
 ·rename_i y hy
  split at hp
  ·rename_i sz m hsl
   split at hp
   ·rename_i l k hl hk
    obtain⟨ht,rfl,h0,h1,h2⟩:=hp
    refine VR.of_run fun a e hop hw=>?_
    have e1:=(hop x mx).slD hsl
    unfold JM at ht
    split at ht
    ·rename_i el hu
     simp only[Bool.and_eq_true]at ht
     have he:Jk Γ.P t=el:=by simp[Jk,hu]
     rw[he]at e1 ⊢
     have hs:=Kk Γ.P el e.w (by simp[Kn,ht])
     rcases e1.slInv with⟨rfl,o',e2⟩|⟨vs,b,of,cap,h3,h4,h5,h6,h7⟩
     ·have hb:=Ja0 (P:=Γ.P) (w:=e.w) (isS:=true) (len:=0) (cap:=0) (a:=a) (e:=e) hl hk h0 h1 (by simpa using h2) (Nat.le_refl _) (fun y hy=>hop y (mlo y hy)) (fun y hy=>hop y (mhi y hy))
      have hk0:k.toNat=0:=by simp at h2; omega
      have hl0:l.toNat=0:=by simp at h2; omega
      refine⟨.slice o' 0 0,?_,?_⟩
      ·simp only[execOp,ho,e2,Instr.sliceAt,Instr.slice,Sem.run_bind,run_underlying hu,Result.andThen_ok,Option.map_none,hb,hs,Sem.run_pure,hk0,hl0]
       simp
      ·simp; exact .slnil _ _
     ·have hb:=Ja0 (P:=Γ.P) (w:=e.w) (isS:=true) (len:=m.length) (cap:=cap) (a:=a) (e:=e) hl hk h0 h1 h2 h7 (fun y hy=>hop y (mlo y hy)) (fun y hy=>hop y (mhi y hy))
      by_cases hcl:cap=l.toNat
      ·subst hcl
       refine⟨.slice (some ⟨b,of,none⟩) (k.toNat-l.toNat) (l.toNat-l.toNat),?_,?_⟩
       ·simp only[execOp,ho,h3,Instr.sliceAt,Instr.slice,Sem.run_bind,run_underlying hu,Result.andThen_ok,Option.map_none,hb,hs,Sem.run_pure,if_true]
       ·have hk0:k.toNat-l.toNat=0:=by omega
        rw[hk0]
        simp only[List.take_zero]
        exact RD.sl _ [] [] b of _ .anil (by simp) (by simp) (by simp)
      ·refine⟨.slice (some ⟨b,of+l.toNat * Jl Γ.P el,none⟩) (k.toNat-l.toNat) (cap-l.toNat),?_,?_⟩
       ·simp only[execOp,ho,h3,Instr.sliceAt,Instr.slice,Sem.run_bind,run_underlying hu,Result.andThen_ok,Option.map_none,hb,hs,Sem.run_pure,hcl,if_false,Option.map_some,Addr.add]
        split <;> simp_all
       ·exact R1.slice h4 h5 h6 (by omega) (by omega) (by omega)
    ·simp at ht
   ·exact hp.elim
  ·exact hp.elim
def ZZ(P:Program)(σ:Nat→AV)(h:Hp)(t:TypeId)(x:Operand)(lo:Option Operand)(hi mx:Operand):AR :=
 match slD (evA σ x) with
 | some (sz,m)=>match bnd σ 0 lo,bnd σ 0 (some hi),bnd σ 0 (some mx) with
  | some l,some k,some c=>⟨JM P t=true∧sz=Jl P (Jk P t)∧0≤l∧l≤k∧k=c∧k≤m.length,.c (.sl sz ((m.drop l.toNat).take (k.toNat-l.toNat)) 0),h⟩
  | _,_,_=>.bad h
 | none=>match evA σ x,bnd σ 0 lo,bnd σ 0 (some hi),bnd σ 0 (some mx) with
  | .c (.os _ sz _ _),some l,some k,some c=>⟨JM P t=true∧sz=Jl P (Jk P t)∧l=0∧k=0∧c=0,.c (.sl sz [] 0),h⟩
  | _,_,_,_=>.bad h
theorem Jcn{P:Program}{w:World}{σ:Nat→AV}{a:Act}{e:Env}{len cap:Nat}{lo:Option Operand}{hi mx:Operand}{l k:Int}
  (hl:bnd σ 0 lo=some l) (hh:bnd σ 0 (some hi)=some k) (hm:bnd σ 0 (some mx)=some k) (h0:0≤l) (h1:l≤k) (h2:k≤len) (hc:len≤cap)
  (hlo:∀ y,lo=some y→RA e (evA σ y) (a.eval y)) (hhi:RA e (evA σ hi) (a.eval hi)) (hmx:RA e (evA σ mx) (a.eval mx)) :
  (Instr.sliceBounds true len cap (lo.map a.eval) (some (a.eval hi)) (some (a.eval mx))).run P w=.ok (l.toNat,k.toNat,k.toNat) w:=by
 obtain⟨kh,hhv⟩:∃ q,a.eval hi=.int q k:=by
  rcases JbX hh (fun y hy=>by cases hy; exact hhi) with⟨h,_⟩|⟨y,q,h,h'⟩
  ·cases h
  ·cases h; exact⟨q,h'⟩
 obtain⟨km,hmv⟩:∃ q,a.eval mx=.int q k:=by
  rcases JbX hm (fun y hy=>by cases hy; exact hmx) with⟨h,_⟩|⟨y,q,h,h'⟩
  ·cases h
  ·cases h; exact⟨q,h'⟩
 have b1:(Instr.sliceBound (a.eval mx) cap .slice3Acap).run P w=.ok k.toNat w:=by
  simp only[hmv,Instr.sliceBound,asIntOf,Sem.run_bind,Sem.run_pure,Result.andThen_ok]
  rw[if_pos (by omega),Sem.run_pure]
 have b2:(Instr.sliceBound (a.eval hi) k.toNat .slice3B).run P w=.ok k.toNat w:=by
  simp only[hhv,Instr.sliceBound,asIntOf,Sem.run_bind,Sem.run_pure,Result.andThen_ok]
  rw[if_pos (by omega),Sem.run_pure]
 have b3:(match (lo.map a.eval) with | some v=>Instr.sliceBound v k.toNat .slice3C | none=>pure 0:Sem Nat).run P w=.ok l.toNat w:=by
  rcases JbX hl hlo with⟨rfl,rfl⟩|⟨y,q,rfl,hy⟩
  ·simp
  ·simp only[Option.map_some,hy,Instr.sliceBound,asIntOf,Sem.run_bind,Sem.run_pure,Result.andThen_ok]
   rw[if_pos (by omega),Sem.run_pure]
 unfold Instr.sliceBounds
 simp only[Sem.run_bind,if_true,b1,Result.andThen_ok,b2,Option.isSome_some]
 cases lo with
 | none=>simp at b3 ⊢; omega
 | some y=>simp only[Option.map_some]at b3 ⊢; simp[b3]
theorem Jkp{Γ:Ctx}{σ:Nat→AV}{h:Hp}(o:Oper)(t:TypeId)(x:Operand)(lo:Option Operand)(hi mx:Operand)(ho:o.op=.slice t x lo (some hi) (some mx))(hp:(ZZ Γ.P σ h t x lo hi mx).pre):
  VR Γ o σ h (ZZ Γ.P σ h t x lo hi mx).val (ZZ Γ.P σ h t x lo hi mx).h:=by
 have mx0:x∈o.op.operands:=by simp[ho,Op.operands]
 have mlo:∀ y,lo=some y→y∈o.op.operands:=fun y hy=>by subst hy; simp[ho,Op.operands]
 have mhi:hi∈o.op.operands:=by simp[ho,Op.operands]
 have mmx:mx∈o.op.operands:=by simp[ho,Op.operands]
 unfold ZZ at *
 split at hp
 ·rename_i sz m hsl
  split at hp
  ·rename_i l k c hl hk hc
   obtain⟨ht,rfl,h0,h1,rfl,h2⟩:=hp
   refine VR.of_run fun a e hop hw=>?_
   have e1:=(hop x mx0).slD hsl
   unfold JM at ht
   split at ht
   ·rename_i el hu
    simp only[Bool.and_eq_true]at ht
    have he:Jk Γ.P t=el:=by simp[Jk,hu]
    rw[he]at e1 ⊢
    have hs:=Kk Γ.P el e.w (by simp[Kn,ht])
    rcases e1.slInv with⟨rfl,o',e2⟩|⟨vs,b,of,cap,h3,h4,h5,h6,h7⟩
    ·have hb:=Jcn (P:=Γ.P) (w:=e.w) (len:=0) (cap:=0) (a:=a) (e:=e) hl hk hc h0 h1 (by simpa using h2) (Nat.le_refl _) (fun y hy=>hop y (mlo y hy)) (hop hi mhi) (hop mx mmx)
     have hk0:k.toNat=0:=by simp at h2; omega
     have hl0:l.toNat=0:=by simp at h2; omega
     refine⟨.slice o' 0 0,?_,?_,.inl ⟨_,_,rfl⟩⟩
     ·simp only[execOp,ho,e2,Instr.sliceAt,Instr.slice,Sem.run_bind,run_underlying hu,Result.andThen_ok,Option.map_some,hb,hs,Sem.run_pure,hk0,hl0]
      simp
     ·simp; exact .slnil _ _
    ·have hb:=Jcn (P:=Γ.P) (w:=e.w) (len:=m.length) (cap:=cap) (a:=a) (e:=e) hl hk hc h0 h1 h2 h7 (fun y hy=>hop y (mlo y hy)) (hop hi mhi) (hop mx mmx)
     by_cases hcl:k.toNat=l.toNat
     ·refine⟨.slice (some ⟨b,of,none⟩) (k.toNat-l.toNat) (k.toNat-l.toNat),?_,?_,.inl ⟨_,_,rfl⟩⟩
      ·simp only[execOp,ho,h3,Instr.sliceAt,Instr.slice,Sem.run_bind,run_underlying hu,Result.andThen_ok,Option.map_some,hb,hs,Sem.run_pure,hcl,if_true]
      ·rw[show k.toNat-l.toNat=0 by omega]
       simp only[List.take_zero]
       exact RD.sl _ [] [] b of _ .anil (by simp) (by simp) (by simp)
     ·refine⟨.slice (some ⟨b,of+l.toNat * Jl Γ.P el,none⟩) (k.toNat-l.toNat) (k.toNat-l.toNat),?_,?_,.inl ⟨_,_,rfl⟩⟩
      ·simp only[execOp,ho,h3,Instr.sliceAt,Instr.slice,Sem.run_bind,run_underlying hu,Result.andThen_ok,Option.map_some,hb,hs,Sem.run_pure,hcl,if_false,Addr.add]
       split <;> simp_all
      ·have:=R1.slice (cap:=k.toNat) h4 h5 h6 (show l.toNat≤k.toNat by omega) (by omega) (Nat.le_refl _)
       exact this
   ·simp at ht
  ·exact hp.elim
 ·split at hp
  ·rename_i n sz off len l k c hx hl hk hc
   obtain⟨ht,rfl,rfl,rfl,rfl⟩:=hp
   refine VR.of_run fun a e hop hw=>?_
   have e1:=hop x mx0
   rw[hx]at e1
   obtain⟨o',len',cap',e2,hle⟩:∃ o' len' cap',a.eval x=.slice o' len' cap'∧len'≤cap':=by
    rcases e1 with⟨_,o,e2⟩|⟨b,cap,_,_,e2,h5⟩
    ·exact⟨_,_,_,e2,Nat.le_refl _⟩
    ·exact⟨_,_,_,e2,by omega⟩
   unfold JM at ht
   split at ht
   ·rename_i el hu
    simp only[Bool.and_eq_true]at ht
    have he:Jk Γ.P t=el:=by simp[Jk,hu]
    have hs:=Kk Γ.P el e.w (by simp[Kn,ht])
    have hb:=Jcn (P:=Γ.P) (w:=e.w) (len:=len') (cap:=cap') (a:=a) (e:=e) hl hk hc (Int.le_refl 0) (Int.le_refl 0) (by omega) hle (fun y hy=>hop y (mlo y hy)) (hop hi mhi) (hop mx mmx)
    refine⟨.slice o' 0 0,?_,.slnil _ _,.inl ⟨_,_,rfl⟩⟩
    simp only[execOp,ho,e2,Instr.sliceAt,Instr.slice,Sem.run_bind,run_underlying hu,Result.andThen_ok,Option.map_some,hb,hs,Sem.run_pure]
    cases o' <;> simp
   ·simp at ht
  ·exact hp.elim
end Go.Proofs.YtfkhlbhjhdpkoaaDoor
namespace Go.Proofs.YtfkhlbhjhdpkoaaDoor
open Go.RowKit
structure Grows (w w':World):Prop where
 os:w'.os=w.os
 tape:w'.tape=w.tape
 output:w'.output=w.output
 size:w.heap.size≤w'.heap.size
 block:∀ k,k<w.heap.size→w'.heap[k]? = w.heap[k]?
theorem Grows.refl(w:World):Grows w w:=⟨rfl,rfl,rfl,Nat.le_refl _,fun _ _=>rfl⟩
theorem Grows.trans{a b c:World}(h:Grows a b)(k:Grows b c):Grows a c :=
 ⟨k.os.trans h.os,k.tape.trans h.tape,k.output.trans h.output,Nat.le_trans h.size k.size,fun i hi=>(k.block i (Nat.lt_of_lt_of_le hi h.size)).trans (h.block i hi)⟩
theorem Grows.alloc(w:World)(o:Obj):Grows w (w.alloc o):=⟨rfl,rfl,rfl,by simp,fun k hk=>Below.heap_alloc w o k hk⟩
theorem Grows.drew(w:World):Grows w w.drew:=⟨rfl,rfl,rfl,Nat.le_refl _,fun _ _=>rfl⟩
theorem Jfd{w:World}{b o:Nat}{x:Value}(h:w.cell? ⟨b,o,none⟩=some x):b<w.heap.size:=World.block_lt_of_cell? w _ h
theorem VO{w w':World}{B ty sz n:Nat}{v:Value}{xs:List Value}(h:w.ownsRow B ty sz v n xs)(hb:∀ b,v.ownBlock=some b→w'.heap[b]? = w.heap[b]?):w'.ownsRow B ty sz v n xs:=by
 refine⟨h.1,?_⟩
 rcases h.2 with hn | ⟨g,cap,cur,rfl,r1,r2,r3⟩
 ·exact .inl hn
 ·exact .inr ⟨g,cap,cur,rfl,r1,by rw[hb g rfl]; exact r2,r3⟩
theorem WInv.grows{Γ:Ctx}{h:Hp}{e:Env}(hw:WInv Γ h e){w':World}{S':Nat→Nat→Prop}(hg:Grows e.w w')
  (hS:∀ b o,b<e.w.heap.size→(S' b o↔e.S b o)) (hd:∀ b o,S' b o→b<w'.heap.size) :
  WInv Γ h { e with w:=w',S:=S' }∧e.le { e with w:=w',S:=S' }:=by
 have hle:e.le { e with w:=w',S:=S' }:=⟨fun b o x hc hs=>by
  have hb:=Jfd hc
  exact⟨(World.cell?_of_block (hg.block b hb)).trans hc,fun h'=>hs ((hS b o hb).1 h')⟩,fun _ _ h=>h,fun _ _ h=>h⟩
 refine⟨?_,hle⟩
 constructor
 ·exact hw.g0
 ·exact hg.os.trans hw.os
 ·exact hg.tape.trans hw.tape
 ·exact hg.output.trans hw.output
 ·exact Nat.le_trans hw.grown hg.size
 ·exact Nat.le_trans hw.hB hg.size
 ·intro b hb hm
  exact(hg.block b (Nat.lt_of_lt_of_le hb hw.hB)).trans (hw.old b hb hm)
 ·exact hd
 ·intro b o h0 hm
  have:=hw.s0 b o h0 hm
  exact(hS b o (hw.sdom _ _ this)).2 this
 ·exact hw.s0B
 ·exact hw.keep.trans hle.keep
 ·intro n row hn
  rcases hw.box n row hn with hz | ⟨b,ob,h1,h2,h3,h4,h5⟩
  ·exact .inl hz
  have hb:b<e.w.heap.size:=(Array.getElem?_eq_some_iff.1 h2).1
  exact .inr ⟨b,ob,h1,(hg.block b hb).trans h2,RO.mono hle h3,fun o ho=>(hS b o hb).2 (h4 o ho),h5⟩
 ·exact hw.inj
 ·intro k ty hk
  obtain⟨h0,v,h1,hor⟩:=hw.tok k ty hk
  refine⟨h0,v,h1,hor.imp id ?_⟩
  rintro ⟨sz,n,xs,hsz,h2,h3,h4⟩
  have hlt:=h2.1.lt
  refine⟨sz,n,xs,hsz,⟨VO h2.1 (fun b hb=>hg.block b (hlt b hb).2),h2.2⟩,fun b o hb ho hc=>?_,h4⟩
  have hb':=(hlt b hb).2
  have hce:w'.cell? ⟨b,o,none⟩=e.w.cell? ⟨b,o,none⟩:=World.cell?_of_block (hg.block b hb')
  exact(hS b o hb').2 (h3 b o hb ho (by rw[← hce]; exact hc))
 ·exact hw.tokinj
 ·exact hw.fresh
 ·exact hw.nx0
 ·exact hw.rt
theorem WInv.quiet{Γ:Ctx}{h:Hp}{e:Env}(hw:WInv Γ h e){w':World}(hg:Grows e.w w'):
  WInv Γ h { e with w:=w' }∧e.le { e with w:=w' } :=
 hw.grows (S':=e.S) hg (fun _ _ _=>Iff.rfl) (fun b o hb=>Nat.lt_of_lt_of_le (hw.sdom b o hb) hg.size)
theorem Env.le_name{e:Env}{n b:Nat}(h:e.ρ n=none):e.le { e with ρ:=upd e.ρ n (some b) } :=
 ⟨Keep.refl _ _,fun m c hm=>by
  have:m≠n:=fun he=>by rw[he,h]at hm; cases hm
  simp[upd,this,hm],fun _ _ h=>h⟩
theorem Env.le_tok{e:Env}{n:Nat}{v:Value}(h:e.τ n=none):e.le { e with τ:=upd e.τ n (some v) } :=
 ⟨Keep.refl _ _,fun _ _ h=>h,fun m c hm=>by
  have:m≠n:=fun he=>by rw[he,h]at hm; cases hm
  simp[upd,this,hm]⟩
theorem WInv.addArr{Γ:Ctx}{h:Hp}{e:Env}(hw:WInv Γ h e){b:Nat}{ob:Obj}{row:List C}{u:Value}
  (hb:e.w.heap[b]? = some ob) (hr:RO { e with ρ:=upd e.ρ h.nx (some b),τ:=upd e.τ h.nx (some u) } h.nx row ob) (hs:∀ o,o<Jc1 ob→e.S b o) (hB:Γ.B≤b∨Γ.M b)
  (hn:∀ n,h.H n≠none→e.ρ n≠some b) (ht:∀ k v,h.T k≠none→e.τ k=some v→¬ KX v→v.ownBlock≠some b) :
  WInv Γ { h with H:=upd h.H h.nx (some row),nx:=h.nx+1 } { e with ρ:=upd e.ρ h.nx (some b),τ:=upd e.τ h.nx (some u) }∧e.le { e with ρ:=upd e.ρ h.nx (some b),τ:=upd e.τ h.nx (some u) }:=by
 obtain⟨f1,f2,f3,f4⟩:=hw.fresh h.nx (Nat.le_refl _)
 have hle:e.le { e with ρ:=upd e.ρ h.nx (some b),τ:=upd e.τ h.nx (some u) }:=(Env.le_name (b:=b) f3).trans (Env.le_tok (e:={ e with ρ:=upd e.ρ h.nx (some b) }) f4)
 refine⟨?_,hle⟩
 constructor
 ·exact hw.g0
 ·exact hw.os
 ·exact hw.tape
 ·exact hw.output
 ·exact hw.grown
 ·exact hw.hB
 ·exact hw.old
 ·exact hw.sdom
 ·exact hw.s0
 ·exact hw.s0B
 ·exact hw.keep.trans hle.keep
 ·intro n r hnr
  by_cases hnn:n=h.nx
  ·subst hnn
   simp only[upd_same,Option.some.injEq]at hnr
   subst hnr
   exact .inr ⟨b,ob,by simp,hb,hr,hs,hB⟩
  ·simp only[upd,hnn,if_false]at hnr
   rcases hw.box n r hnr with hz | ⟨b',ob,h1,h2,h3,h4,h5⟩
   ·exact .inl ⟨by simp[upd,hnn,hz.1],hz.2⟩
   exact .inr ⟨b',ob,by simp[upd,hnn,h1],h2,RO.mono hle h3,h4,h5⟩
 ·intro n m c hn1 hm1 hn2 hm2
  simp only[upd]at hn1 hm1 hn2 hm2
  by_cases hnn:n=h.nx <;> by_cases hmm:m=h.nx
  ·rw[hnn,hmm]
  ·simp only[hnn,hmm,if_true,if_false]at hn2 hm2 hm1
   simp at hn2; subst hn2
   exact absurd hm2 (hn m hm1)
  ·simp only[hnn,hmm,if_true,if_false]at hn2 hm2 hn1
   simp at hm2; subst hm2
   exact absurd hn2 (hn n hn1)
  ·simp only[hnn,hmm,if_false]at hn1 hm1 hn2 hm2
   exact hw.inj n m c hn1 hm1 hn2 hm2
 ·intro k ty' hk
  obtain⟨h0,v,h1,hor⟩:=hw.tok k ty' hk
  have hknx:k≠h.nx:=fun he=>by simp only at hk; rw[he,f2]at hk; cases hk
  refine⟨h0,v,by simp[upd,hknx,h1],?_⟩
  by_cases hfull:KX v
  ·exact .inl hfull
  obtain⟨sz,n,xs,hsz,h2,h3,h4⟩:=hor.resolve_left hfull
  refine .inr ⟨sz,n,xs,hsz,h2,h3,fun c hc m hm=>?_⟩
  simp only[upd]at hm ⊢
  by_cases hmm:m=h.nx
  ·simp only[hmm,if_true]
   intro he
   simp at he
   subst he
   exact ht k v (fun h'=>by simp only at hk; rw[h']at hk; cases hk) h1 hfull hc
  ·simp only[hmm,if_false]at hm ⊢
   exact h4 c hc m hm
 ·intro k m v w c hk hm hv hwm hvb hwb hfv hfw
  have hknx:k≠h.nx:=fun he=>by simp only at hk; rw[he,f2]at hk; exact hk rfl
  have hmnx:m≠h.nx:=fun he=>by simp only at hm; rw[he,f2]at hm; exact hm rfl
  simp only[upd,hknx,hmnx,if_false]at hv hwm
  exact hw.tokinj k m v w c hk hm hv hwm hvb hwb hfv hfw
 ·intro n hn'
  have hne:n≠h.nx:=by simp at hn'; omega
  obtain⟨g1,g2,g3,g4⟩:=hw.fresh n (by simp at hn'; omega)
  exact⟨by simp[upd,hne,g1],g2,by simp[upd,hne,g3],by simp[upd,hne,g4]⟩
 ·exact Nat.succ_pos _
 ·refine⟨Nat.lt_succ_of_lt hw.rt.1,fun i x hx=>?_⟩
  have h1:=hw.rt.2 i x hx
  have hne:=hw.rne hx
  exact⟨by simp[upd,hne,h1.1],by simp[upd,hne,h1.2]⟩
theorem WInv.dropBox{Γ:Ctx}{h:Hp}{e:Env}(hw:WInv Γ h e)(n:Nat):WInv Γ { h with H:=upd h.H n none } e:=by
 have g:∀ i,upd h.H n none i≠none→h.H i≠none:=fun i hi h0=>hi (by simp[upd,h0])
 constructor
 ·exact hw.g0
 ·exact hw.os
 ·exact hw.tape
 ·exact hw.output
 ·exact hw.grown
 ·exact hw.hB
 ·exact hw.old
 ·exact hw.sdom
 ·exact hw.s0
 ·exact hw.s0B
 ·exact hw.keep
 ·intro m r hm
  by_cases hmn:m=n
  ·subst hmn; simp at hm
  ·simp only[upd,hmn,if_false]at hm; exact hw.box m r hm
 ·intro m m' b hm hm'
  exact hw.inj m m' b (g m hm) (g m' hm')
 ·intro k ty hk
  obtain⟨h0,v,h1,hor⟩:=hw.tok k ty hk
  refine⟨h0,v,h1,hor.imp id ?_⟩
  rintro ⟨sz,m,xs,z1,z2,z3,z4⟩
  exact⟨sz,m,xs,z1,z2,z3,fun b hb i hi=>z4 b hb i (g i hi)⟩
 ·exact hw.tokinj
 ·intro m hm
  obtain⟨g1,g2,g3,g4⟩:=hw.fresh m hm
  exact⟨by simp[upd,g1],g2,g3,g4⟩
 ·exact hw.nx0
 ·exact hw.rt
theorem WInv.addTok{Γ:Ctx}{h:Hp}{e:Env}(hw:WInv Γ h e){v:Value}{ty:TypeId}
  (ho:KX v∨∃ sz n xs,(0<sz∧sz=Jl Γ.P ty)∧Jel Γ e.w ty sz v n xs∧(∀ b o,v.ownBlock=some b→n * sz≤o→(e.w.cell? ⟨b,o,none⟩).isSome→e.S b o) ∧
   (∀ b,v.ownBlock=some b→∀ m,h.H m≠none→e.ρ m≠some b))
  (ht:¬ KX v→∀ k u b,h.T k≠none→e.τ k=some u→u.ownBlock=some b→¬ KX u→v.ownBlock≠some b) :
  WInv Γ { h with T:=upd h.T h.nx (some ty),nx:=h.nx+1 } { e with τ:=upd e.τ h.nx (some v) }∧e.le { e with τ:=upd e.τ h.nx (some v) }:=by
 obtain⟨f1,f2,f3,f4⟩:=hw.fresh h.nx (Nat.le_refl _)
 have hle:e.le { e with τ:=upd e.τ h.nx (some v) }:=Env.le_tok f4
 refine⟨?_,hle⟩
 constructor
 ·exact hw.g0
 ·exact hw.os
 ·exact hw.tape
 ·exact hw.output
 ·exact hw.grown
 ·exact hw.hB
 ·exact hw.old
 ·exact hw.sdom
 ·exact hw.s0
 ·exact hw.s0B
 ·exact hw.keep.trans hle.keep
 ·intro n r hnr
  rcases hw.box n r hnr with hz | ⟨b',ob,h1,h2,h3,h4,h5⟩
  ·exact .inl hz
  exact .inr ⟨b',ob,h1,h2,RO.mono hle h3,h4,h5⟩
 ·exact hw.inj
 ·intro k ty' hk
  by_cases hkk:k=h.nx
  ·subst hkk
   simp only[upd_same,Option.some.injEq]at hk
   subst hk
   exact⟨by have:=hw.nx0; omega,v,by simp,ho⟩
  ·simp only[upd,hkk,if_false]at hk
   obtain⟨h0,u,h1,h2⟩:=hw.tok k ty' hk
   exact⟨h0,u,by simp[upd,hkk,h1],h2⟩
 ·intro k m u u' b hk hm hu hu' hb hb' hf hf'
  simp only[upd]at hk hm hu hu'
  by_cases hkk:k=h.nx <;> by_cases hmm:m=h.nx
  ·rw[hkk,hmm]
  ·simp only[hkk,hmm,if_true,if_false]at hu hu' hm
   simp at hu; subst hu
   exact absurd hb (ht hf m u' b hm hu' hb' hf')
  ·simp only[hkk,hmm,if_true,if_false]at hu hu' hk
   simp at hu'; subst hu'
   exact absurd hb' (ht hf' k u b hk hu hb hf)
  ·simp only[hkk,hmm,if_false]at hk hm hu hu'
   exact hw.tokinj k m u u' b hk hm hu hu' hb hb' hf hf'
 ·intro m hm'
  have hne:m≠h.nx:=by simp at hm'; omega
  obtain⟨g1,g2,g3,g4⟩:=hw.fresh m (by simp at hm'; omega)
  exact⟨g1,by simp[upd,hne,g2],g3,by simp[upd,hne,g4]⟩
 ·exact Nat.succ_pos _
 ·refine⟨Nat.lt_succ_of_lt hw.rt.1,fun i x hx=>?_⟩
  have h1:=hw.rt.2 i x hx
  have hne:=hw.rne hx
  exact⟨h1.1,by simp[upd,hne,h1.2]⟩
theorem WInv.dropTok{Γ:Ctx}{h:Hp}{e:Env}(hw:WInv Γ h e)(k:Nat):WInv Γ { h with T:=upd h.T k none } e:=by
 constructor
 ·exact hw.g0
 ·exact hw.os
 ·exact hw.tape
 ·exact hw.output
 ·exact hw.grown
 ·exact hw.hB
 ·exact hw.old
 ·exact hw.sdom
 ·exact hw.s0
 ·exact hw.s0B
 ·exact hw.keep
 ·exact hw.box
 ·exact hw.inj
 ·intro m ty hm
  by_cases hmk:m=k
  ·subst hmk; simp at hm
  ·simp only[upd,hmk,if_false]at hm; exact hw.tok m ty hm
 ·intro m m' v u b hm hm'
  have h1:h.T m≠none:=by intro h0; apply hm; simp[upd,h0]
  have h2:h.T m'≠none:=by intro h0; apply hm'; simp[upd,h0]
  exact hw.tokinj m m' v u b h1 h2
 ·intro n hn
  obtain⟨g1,g2,g3,g4⟩:=hw.fresh n hn
  exact⟨g1,by simp[upd,g2],g3,g4⟩
 ·exact hw.nx0
 ·exact hw.rt
theorem WInv.setBox{Γ:Ctx}{h:Hp}{e:Env}(hw:WInv Γ h e){n:Nat}{row row':List C}{b:Nat}{cs:Array Value}{ty:TypeId}{vs:List Value}
  (hn:h.H n=some row) (hρ:e.ρ n=some b) (hb:e.w.heap[b]? = some (.cells cs ty (0,0))) (hr:RB e n row' vs) (hl:vs.length=cs.size) (hnb:Jc6 row=true) (hrp:rowP row'=true→rowP row=true) :
  WInv Γ { h with H:=upd h.H n (some row') } { e with w:=e.w.setRow b vs.toArray }∧e.le { e with w:=e.w.setRow b vs.toArray }:=by
 obtain⟨b0,cs0,ty0,q1,q2,q3,q4,q5⟩:=hw.boxAt hρ row hn hnb
 rw[hρ]at q1
 simp at q1
 subst q1
 rw[hb]at q2
 simp at q2
 obtain⟨rfl,rfl⟩:=q2
 have hτ:rowP row=true→e.τ n=some (tyV ty):=fun hp=>by
  obtain⟨ob,o1,o2,_⟩:=hw.boxAny hρ row hn
  rw[hb]at o1; cases o1
  exact o2.ty hp
 have hS:∀ o x,e.w.cell? ⟨b,o,none⟩=some x→e.S b o:=fun o x hx=>by
  have:cs[o]? = some x:=by simpa [World.cell?,hb] using hx
  exact q4 o (Array.getElem?_eq_some_iff.1 this).1
 have hle:e.le { e with w:=e.w.setRow b vs.toArray }:=⟨fun c o x hc hs=>by
  have hne:c≠b:=fun he=>by subst he; exact hs (hS o x hc)
  exact⟨(World.cell?_of_block (setRow_other _ _ _ _ hne)).trans hc,hs⟩,fun _ _ h=>h,fun _ _ h=>h⟩
 refine⟨?_,hle⟩
 constructor
 ·exact hw.g0
 ·exact hw.os
 ·exact hw.tape
 ·exact hw.output
 ·simpa using hw.grown
 ·simpa using hw.hB
 ·intro c hc hm
  have hne:c≠b:=fun he=>by
   subst he
   rcases q5 with h | h
   ·omega
   ·exact hm h
  exact(setRow_other _ _ _ _ hne).trans (hw.old c hc hm)
 ·intro c o hc; simpa using hw.sdom c o hc
 ·exact hw.s0
 ·exact hw.s0B
 ·exact hw.keep.trans hle.keep
 ·intro m r hmr
  by_cases hmn:m=n
  ·subst hmn
   simp only[upd_same,Option.some.injEq]at hmr
   subst hmr
   refine .inr ⟨b,_,hρ,setRow_heap _ _ _ _ _ _ hb,RO.of (RB.mono hle (by simpa using hr)) (fun hp=>hτ (hrp hp)),fun o ho=>q4 o (by simp[Jc1]at ho; omega),q5⟩
  ·simp only[upd,hmn,if_false]at hmr
   rcases hw.box m r hmr with hz | ⟨b',ob,h1,h2,h3,h4,h5⟩
   ·exact .inl hz
   have hne:b'≠b:=fun he=>by
    subst he
    exact hmn (hw.inj m n b' (by simp[hmr]) (by simp[hn]) h1 hρ)
   exact .inr ⟨b',ob,h1,(setRow_other _ _ _ _ hne).trans h2,RO.mono hle h3,h4,h5⟩
 ·intro m m' c hm hm'
  have g:∀ i,upd h.H n (some row') i≠none→h.H i≠none:=fun i hi=>by
   by_cases hin:i=n
   ·subst hin; simp[hn]
   ·simpa [upd,hin] using hi
  exact hw.inj m m' c (g m hm) (g m' hm')
 ·intro k ty' hk
  obtain⟨h0,v,h1,hor⟩:=hw.tok k ty' hk
  refine⟨h0,v,h1,hor.imp id ?_⟩
  rintro ⟨sz,m,xs,hsz,h2,h3,h4⟩
  have hne:∀ c,v.ownBlock=some c→c≠b:=fun c hc he=>by
   subst he
   exact h4 c hc n (by simp[hn]) hρ
  refine⟨sz,m,xs,hsz,⟨VO h2.1 (fun c hc=>setRow_other _ _ _ _ (hne c hc)),h2.2⟩,fun c o hc ho hs=>?_,fun c hc i hi=>?_⟩
  ·have hce:(e.w.setRow b vs.toArray).cell? ⟨c,o,none⟩=e.w.cell? ⟨c,o,none⟩:=World.cell?_of_block (setRow_other _ _ _ _ (hne c hc))
   exact h3 c o hc ho (by rw[← hce]; exact hs)
  ·have:h.H i≠none:=by
    by_cases hin:i=n
    ·subst hin; simp[hn]
    ·simpa [upd,hin] using hi
   exact h4 c hc i this
 ·exact hw.tokinj
 ·intro m hm
  obtain⟨g1,g2,g3,g4⟩:=hw.fresh m hm
  refine⟨?_,g2,g3,g4⟩
  have:m≠n:=fun he=>by rw[he,hn]at g1; cases g1
  simp[upd,this,g1]
 ·exact hw.nx0
 ·exact hw.rt
end Go.Proofs.YtfkhlbhjhdpkoaaDoor
namespace Go.Proofs.YtfkhlbhjhdpkoaaDoor
open Go.RowKit
theorem KM{P:Program}{o:Oper}{a:Act}{w w':World}{v:Value}{K:Act→World→Prop}{Q:Exit→Act→World→Prop}
  (hr:(execOp a.eval o).run P w=.ok (.value v) w') (hk:K (a.put o.dst v) w'):o.wp P a w K Q:=by
 unfold Oper.wp; rw[hr]; exact hk
theorem JcK{P:Program}{o:Oper}{a:Act}{w w':World}{K:Act→World→Prop}{Q:Exit→Act→World→Prop}
  (hr:(execOp a.eval o).run P w=.ok .skip w') (hk:K (a.put o.dst undef) w'):o.wp P a w K Q:=by
 unfold Oper.wp; rw[hr]; exact hk
def D.one:D→Bool
 | .v x=>x.oneCell'
 | .sl _ _=>true
 | _=>false
def C.one:C→Bool
 | .d x=>x.one
 | .ex _ y=>y.one
 | .top=>false
 | .arr _ _=>false
 | .bar _=>false
 | _=>true
def AV.row:AV→List C
 | .c (.d (.ag l))=>l.map .d
 | .c x=>[x]
 | .ag l=>l
 | .tu _=>[]
 | .df _=>[]
def AV.rowOk:AV→Bool
 | .c (.d (.v x))=>x.oneCell'
 | .c (.d (.tu _))=>false
 | .c (.ex _ d)=>d.one
 | .c .top=>false
 | .c (.arr _ _)=>false
 | .c (.bar _)=>false
 | .tu _=>false
 | .df _=>false
 | _=>true
theorem KI{v:Value}(h:v.oneCell'=true):v.cells=#[v]:=by cases v <;> simp_all [Value.oneCell',Value.cells]
theorem R1.slOne{w:World}{S:Nat→Nat→Prop}{sz:Nat}{l:List D}{v:Value}(h:R1 w S (.sl sz l) v):v.oneCell'=true:=by
 rcases h.slInv with⟨_,o,rfl⟩|⟨vs,b,of,cap,rfl,_⟩ <;> rfl
theorem R1.one{w:World}{S:Nat→Nat→Prop}:∀ {d:D} {v:Value},R1 w S d v→d.one=true→v.oneCell'=true
 | .v x,v,h,k=>by have:=R1.vInv h; subst this; exact k
 | .sl _ _,v,h,_=>R1.slOne h
theorem RC.one{e:Env}:∀ {c:C} {v:Value},RC e c v→c.one=true→v.oneCell'=true
 | .d (.v x),v,h,k=>by have:=R1.vInv h; subst this; exact k
 | .d (.sl _ _),v,h,_=>R1.slOne h
 | .sl _ _ _,v,h,_=>R1.slOne h.1
 | .pt _ _,v,⟨_,_,h⟩,_=>by subst h; rfl
 | .pp _,v,⟨_,_,_,h,_⟩,_=>by subst h; rfl
 | .ex _ _,v,h,k=>R1.one h.2 k
 | .top,_,_,k=>by cases k
 | .os _ _ _ _,v,h,_=>by
  rcases h with⟨_,_,h⟩|⟨_,_,_,_,h,_⟩ <;> subst h <;> rfl
 | .fs _ _,v,h,_=>R1.slOne h.1
 | .clo _ _,v,⟨_,_,h⟩,_=>by subst h; rfl
 | .op _ _ _,v,h,_=>by
  rcases h.2 with⟨_,h⟩|⟨_,_,_,h⟩ <;> subst h <;> rfl
 | .pa _ _ _ _,v,⟨_,_,h⟩,_=>by subst h; rfl
 | .nl,v,⟨_,h,_⟩,_=>by subst h; rfl
theorem RCs.one{e:Env}:∀ {l:List C} {vs:List Value},RCs e l vs→l.all C.one=true→∀ v∈vs,v.oneCell'=true
 | [],[],_,_,v,hv=>by simp at hv
 | c::l,x::vs,⟨h1,h2⟩,h,v,hv=>by
  simp only[List.all_cons,Bool.and_eq_true]at h
  simp only[List.mem_cons]at hv
  rcases hv with rfl | hv
  ·exact h1.one h.1
  ·exact RCs.one h2 h.2 v hv
theorem RA.row{e:Env}:∀ {x:AV} {v:Value},RA e x v→x.rowOk=true→RCs e x.row v.cells.toList
 | .c (.d (.ag l)),v,h,_=>by
  obtain⟨vs,rfl,h2⟩:=R1.agInv h
  exact RCs.ofD h2
 | .c (.d (.v y)),v,h,k=>by
  have:=R1.vInv h
  subst this
  rw[KI k]
  exact⟨h,trivial⟩
 | .c (.d (.sl _ _)),v,h,_=>by rw[KI (R1.slOne h)]; exact⟨h,trivial⟩
 | .c (.d (.ne b)),v,h,_=>by
  have h':RD e.w e.S (.one (.ne b) v):=h
  cases h' with
  | ne0=>exact⟨h,trivial⟩
  | ne1 t p=>exact⟨h,trivial⟩
 | .c (.sl _ _ _),v,h,_=>by rw[KI (R1.slOne h.1)]; exact⟨h,trivial⟩
 | .c (.pt n off),v,h,_=>by
  have h':=h
  obtain⟨_,_,h⟩:=h; subst h; exact⟨h',trivial⟩
 | .c (.pp _),v,h,_=>by
  have h':=h
  obtain⟨_,_,_,h,_⟩:=h; subst h; exact⟨h',trivial⟩
 | .c (.ex _ _),v,h,k=>by rw[KI (R1.one h.2 k)]; exact⟨h,trivial⟩
 | .c .top,_,_,k=>by cases k
 | .c (.os n sz off len),v,h,_=>by rw[KI (RC.one (c:=.os n sz off len) h rfl)]; exact⟨h,trivial⟩
 | .c (.fs sz l),v,h,_=>by rw[KI (RC.one (c:=.fs sz l) h rfl)]; exact⟨h,trivial⟩
 | .c (.clo f ns),v,h,_=>by rw[KI (RC.one (c:=.clo f ns) h rfl)]; exact⟨h,trivial⟩
 | .c (.op p n off),v,h,_=>by rw[KI (RC.one (c:=.op p n off) h rfl)]; exact⟨h,trivial⟩
 | .c (.pa n sz i off),v,h,_=>by rw[KI (RC.one (c:=.pa n sz i off) h rfl)]; exact⟨h,trivial⟩
 | .c .nl,v,h,_=>by rw[KI (RC.one (c:=.nl) h rfl)]; exact⟨h,trivial⟩
 | .ag _,v,⟨vs,h1,h2⟩,_=>by subst h1; exact h2
def ofV:Value→C
 | .slice none 0 0=>.sl 0 [] 0
 | v=>.d (.v v)
theorem RC.ofV(e:Env)(v:Value):RC e (ofV v) v:=by
 unfold Proofs.YtfkhlbhjhdpkoaaDoor.ofV
 split
 ·exact⟨.slnil 0 _,.inl ⟨_,_,rfl⟩⟩
 ·exact .v _
theorem RCs.ofV(e:Env):∀ (vs:List Value),RCs e (vs.map ofV) vs
 | []=>trivial
 | v::vs=>⟨RC.ofV e v,RCs.ofV e vs⟩
theorem R1.nilAny{w:World}{S:Nat→Nat→Prop}{sz sz':Nat}{v:Value}(h:R1 w S (.sl sz []) v):R1 w S (.sl sz' []) v:=by
 rcases h.slInv with⟨_,_,rfl⟩|⟨vs,b,o,cap,rfl,_⟩
 ·exact .slnil _ _
 ·exact RD.sl _ [] [] b o cap .anil (by simp) (by simp) (by simp)
def sizeC(s:Nat):C→C
 | .sl 0 [] k=>.sl s [] k
 | .d (.sl 0 [])=>.d (.sl s [])
 | c=>c
theorem RC.sizeC{e:Env}(s:Nat){c:C}{v:Value}(h:RC e c v):RC e (sizeC s c) v:=by
 unfold Proofs.YtfkhlbhjhdpkoaaDoor.sizeC
 split
 ·exact⟨h.1.nilAny,h.2⟩
 ·exact R1.nilAny h
 ·exact h
def sizeRow:List Nat→List C→List C
 | s::ss,c::cs=>sizeC s c::sizeRow ss cs
 | _,cs=>cs
theorem RCs.sizeRow{e:Env}:∀ (ss:List Nat) {l:List C} {vs:List Value},RCs e l vs→RCs e (sizeRow ss l) vs
 | [],_,_,h=>by simpa [Proofs.YtfkhlbhjhdpkoaaDoor.sizeRow] using h
 | _::_,[],_,h=>by simpa [Proofs.YtfkhlbhjhdpkoaaDoor.sizeRow] using h
 | s::ss,_::_,_::_,⟨h1,h2⟩=>⟨RC.sizeC s h1,RCs.sizeRow ss h2⟩
theorem JcI:∀ (ss:List Nat) (l:List C),(sizeRow ss l).length=l.length
 | [],_=>by simp[sizeRow]
 | _::_,[]=>by simp[sizeRow]
 | _::ss,_::l=>by simp[sizeRow,JcI ss l]
def sizeD0(s:Nat):D→D
 | .sl 0 []=>.sl s []
 | d=>d
def sizeDs:List Nat→List D→List D
 | s::ss,d::ds=>sizeD0 s d::sizeDs ss ds
 | _,ds=>ds
def sizeD(ss:List Nat):D→D
 | .ag l=>.ag (sizeDs ss l)
 | d=>sizeD0 (ss.headD 0) d
theorem R1.sizeD0{w:World}{S:Nat→Nat→Prop}(s:Nat){d:D}{v:Value}(h:R1 w S d v):R1 w S (sizeD0 s d) v:=by
 unfold Proofs.YtfkhlbhjhdpkoaaDoor.sizeD0
 split
 ·exact R1.nilAny h
 ·exact h
theorem Rn.sizeDs{w:World}{S:Nat→Nat→Prop}:∀ (ss:List Nat) {l:List D} {vs:List Value},Rn w S l vs→Rn w S (sizeDs ss l) vs
 | [],_,_,h=>by simpa [Proofs.YtfkhlbhjhdpkoaaDoor.sizeDs] using h
 | _::_,[],_,h=>by simpa [Proofs.YtfkhlbhjhdpkoaaDoor.sizeDs] using h
 | s::ss,_::_,_,h=>by cases h with | acons _ _ _ _ h1 h2=>exact .acons _ _ _ _ (R1.sizeD0 s h1) (Rn.sizeDs ss h2)
theorem R1.sizeD{w:World}{S:Nat→Nat→Prop}(ss:List Nat){d:D}{v:Value}(h:R1 w S d v):R1 w S (sizeD ss d) v:=by
 unfold Proofs.YtfkhlbhjhdpkoaaDoor.sizeD
 split
 ·obtain⟨vs,rfl,k⟩:=R1.agInv h
  exact .ag _ _ (Rn.sizeDs ss k)
 ·exact R1.sizeD0 _ h
theorem Jdn:∀ (ss:List Nat) (l:List D),(sizeDs ss l).length=l.length
 | [],_=>by simp[sizeDs]
 | _::_,[]=>by simp[sizeDs]
 | _::ss,_::l=>by simp[sizeDs,Jdn ss l]
theorem JiE(ss:List Nat)(d:D):(sizeD ss d).cells.length=d.cells.length:=by
 unfold sizeD
 split
 ·simp[D.cells,Jdn]
 ·unfold sizeD0
  split <;> rfl
def cSz(P:Program):Nat→TypeId→List Nat
 | 0,_=>[]
 | n+1,t=>match P.underlying t with
  | some (.struct fs)=>fs.toList.flatMap fun f=>cSz P n f.type
  | some (.slice e)=>[Jl P e]
  | _=>[0]
def tCS(P:Program)(t:TypeId):List Nat:=cSz P 6 t
def tZ(P:Program)(t:TypeId):List Value:=(((P.info? t).bind (·.zero)).map (·.cells.toList)).getD []
def tZok(P:Program)(t:TypeId):Bool:=((P.info? t).bind (·.zero)).isSome
theorem Vz{P:Program}{t:TypeId}(h:tZok P t=true)(w:World):∃ z,(zeroValue t).run P w=.ok z w∧z.cells.toList=tZ P t∧(P.info? t).bind (·.zero)=some z:=by
 simp only[tZok,Option.isSome_iff_exists]at h
 obtain⟨z,hz⟩:=h
 rw[Option.bind_eq_some_iff]at hz
 obtain⟨i,hi,hz⟩:=hz
 exact⟨z,by simp[zeroValue,typeInfo,hi,hz],by simp[tZ,hi,hz],by simp[hi,hz]⟩
def Hp.box(h:Hp)(row:List C):Hp:={ h with H:=upd h.H h.nx (some row),nx:=h.nx+1 }
theorem WInv.newBox{Γ:Ctx}{h:Hp}{e:Env}(hw:WInv Γ h e){cs:Array Value}{ty:TypeId}{row:List C}(hr:∀ e':Env,e.le e'→e'.τ h.nx=some (tyV ty)→RCs e' row cs.toList):
  ∃ e',e'.w=e.w.alloc (.cells cs ty)∧WInv Γ (h.box row) e'∧e.le e'∧e'.ρ h.nx=some e.w.heap.size:=by
 have hg:=Grows.alloc e.w (.cells cs ty)
 obtain⟨w1,l1⟩:=hw.grows (S':=fun b o=>e.S b o∨b=e.w.heap.size) hg (fun b o hb=>⟨fun h=>h.resolve_right (by omega),.inl⟩) (fun b o hb=>by
  simp
  rcases hb with hb | hb
  ·have:=hw.sdom b o hb; omega
  ·omega)
 have hnew:∀ n b,h.H n≠none→e.ρ n=some b→b<e.w.heap.size:=fun n b hn hb=>by
  cases hH:h.H n with
  | none=>exact absurd hH hn
  | some r =>
   obtain⟨ob,q2,_⟩:=hw.boxAny hb r hH
   exact(Array.getElem?_eq_some_iff.1 q2).1
 obtain⟨w2,l2⟩:=w1.addArr (b:=e.w.heap.size) (u:=tyV ty) (row:=row) (heap_alloc_new _ _) (RO.of (.of (hr _ (l1.trans ((Env.le_name (b:=e.w.heap.size) (w1.fresh h.nx (Nat.le_refl _)).2.2.1).trans (Env.le_tok (w1.fresh h.nx (Nat.le_refl _)).2.2.2))) (by simp))) (fun _=>by simp)) (fun o _=>.inr rfl) (.inl hw.hB)
  (fun n hn hb=>by have:=hnew n _ hn hb; omega)
  (fun k v hk hv hfull hb=>by
   cases hT:h.T k with
   | none=>exact absurd hT hk
   | some ty =>
    obtain⟨_,v',q1,q2⟩:=hw.tok k ty hT
    simp only at hv
    rw[hv]at q1; simp at q1; subst q1
    obtain⟨sz,n,xs,_,q2,_⟩:=q2.resolve_left hfull
    have:=(q2.1.lt _ hb).2
    omega)
 exact⟨_,rfl,w2,l1.trans l2,by simp⟩
def C.isNilp:C→Bool
 | .d (.v (.pointer none))=>true
 | _=>false
def C.selfN:C→Nat
 | .op _ n 0=>n
 | _=>0
def C.ptN:C→Nat
 | .pt n 0=>n
 | _=>0
def exC:C→Value→C
 | .sl sz [] 0,v=>.ex v (.sl sz [])
 | c,_=>c
def exCs:List C→List Value→List C
 | c::l,v::vs=>exC c v::exCs l vs
 | l,_=>l
theorem JmU{e:Env}{c:C}{v:Value}(h:RC e c v):RC e (exC c v) v:=by
 unfold exC
 split
 ·exact⟨rfl,h.1⟩
 ·exact h
theorem JhY{e:Env}:∀ {l:List C} {vs:List Value},RCs e l vs→RCs e (exCs l vs) vs
 | [],[],_=>trivial
 | _::_,_::_,⟨h1,h2⟩=>⟨JmU h1,JhY h2⟩
 | [],_::_,h=>h.elim
 | _::_,[],h=>h.elim
def Jcx(t:TypeId)(n:Nat)(zs:List Value)(row:List C):List C:=if t=BTY∧(row.headD .top).isNilp=true then .op false n 0::exCs row.tail zs.tail else row
def Jcu(n:Nat)(old new:List C):List C:=if n≠0∧(new.headD .top).ptN=n∧(old.headD .top).selfN=n then .op true n 0::new.tail else new
theorem JjH{e:Env}{t:TypeId}{n:Nat}{row:List C}{vs:List Value}(hτ:e.τ n=some (tyV t))(h:RCs e row vs):RCs e (Jcx t n vs row) vs:=by
 unfold Jcx
 split
 ·rename_i hc
  obtain⟨rfl,hn⟩:=hc
  match row,vs,h with
  | [],_,_=>cases hn
  | c::r,v::vs,⟨h1,h2⟩ =>
   refine⟨⟨hτ,.inl ⟨rfl,?_⟩⟩,JhY h2⟩
   simp only[List.headD_cons]at hn
   unfold C.isNilp at hn
   split at hn
   ·exact R1.vInv h1
   ·cases hn
 ·exact h
theorem JiM{e:Env}{n:Nat}{old new:List C}{us vs:List Value}(ho:RCs e old us)(h:RCs e new vs):RCs e (Jcu n old new) vs:=by
 unfold Jcu
 split
 ·rename_i hc
  obtain⟨h0,hp,hs⟩:=hc
  match old,us,ho with
  | [],_,_=>simp[C.selfN]at hs; exact absurd hs.symm h0
  | co::_,_::_,⟨k1,_⟩ =>
   match new,vs,h with
   | [],_,_=>simp[C.ptN]at hp; exact absurd hp.symm h0
   | c::r,v::vs,⟨h1,h2⟩ =>
    refine⟨?_,h2⟩
    simp only[List.headD_cons]at hp hs
    unfold C.ptN at hp
    split at hp
    ·subst hp
     unfold C.selfN at hs
     split at hs
     ·subst hs
      exact⟨k1.1,.inr ⟨rfl,h1⟩⟩
     ·exact absurd hs.symm h0
    ·exact absurd hp.symm h0
 ·exact h
def Jcv(P:Program)(h:Hp)(t:TypeId):AR:=⟨tZok P t=true,.c (.pt h.nx 0),h.box (Jcx t h.nx (tZ P t) (sizeRow (tCS P t) ((tZ P t).map ofV)))⟩
theorem Jlu{Γ:Ctx}{σ:Nat→AV}{h:Hp}(o:Oper)(t:TypeId)(ho:o.op=.alloc t)(hp:(Jcv Γ.P h t).pre):
  VR Γ o σ h (Jcv Γ.P h t).val (Jcv Γ.P h t).h:=by
 intro a e hop hw K Q hk
 obtain⟨z,hz,hz2,_⟩:=Vz hp e.w
 obtain⟨e',h1,h2,h3,h4⟩:=hw.newBox (cs:=z.cells) (ty:=t) (row:=Jcx t h.nx (tZ Γ.P t) (sizeRow (tCS Γ.P t) ((tZ Γ.P t).map ofV))) (fun e' _ hτ=>hz2 ▸ JjH (vs:=tZ Γ.P t) hτ (RCs.sizeRow _ (RCs.ofV _ _)))
 refine KM (v:=.pointer (some ⟨e.w.heap.size,0,none⟩)) (w':=e.w.alloc (.cells z.cells t)) ?_ ?_
 ·simp only[execOp,ho,Instr.alloc,Sem.run_bind,hz,Result.andThen_ok,newVar,newRow,run_newObj,Sem.run_pure]
  rfl
 ·rw[← h1]
  exact hk _ e' h2 h3 ⟨_,h4,rfl⟩
def aBox(h:Hp)(σ:Nat→AV)(x:Operand):AR:=⟨(evA σ x).rowOk=true,.c (.pt h.nx 0),h.box (evA σ x).row⟩
theorem Jnd{Γ:Ctx}{σ:Nat→AV}{h:Hp}(o:Oper)(t:TypeId)(x:Operand)(ho:o.op=.box t x)(hp:(aBox h σ x).pre):
  VR Γ o σ h (aBox h σ x).val (aBox h σ x).h:=by
 intro a e hop hw K Q hk
 have hx:=hop x (by simp[ho,Op.operands])
 obtain⟨e',h1,h2,h3,h4⟩:=hw.newBox (cs:=(a.eval x).cells) (ty:=t) (row:=(evA σ x).row) (fun e' hle _=>RCs.mono hle (hx.row hp))
 refine KM (v:=.pointer (some ⟨e.w.heap.size,0,none⟩)) (w':=e.w.alloc (.cells (a.eval x).cells t)) ?_ ?_
 ·simp only[execOp,ho,Instr.box,Sem.run_bind,Result.andThen_ok,newVar,newRow,run_newObj,Sem.run_pure]
  rfl
 ·rw[← h1]
  exact hk _ e' h2 h3 ⟨_,h4,rfl⟩
def putD(d:D)(off:Nat)(ys:List D):D :=
 match d with
 | .ag m=>.ag (m.take off++ys++m.drop (off+ys.length))
 | _=>ys.headD default
theorem JjD{d:D}{off:Nat}{ys:List D}(h:off+ys.length≤d.cells.length)(h0:0<ys.length)(h1:ys.all D.one=true):(putD d off ys).cells=d.cells.take off++ys++d.cells.drop (off+ys.length):=by
 have hone:∀ y:D,y.one=true→y.cells=[y]:=fun y hy=>by cases y <;> first | rfl | cases hy
 have other:d.cells=[d]→(putD d off ys)=ys.headD default→(putD d off ys).cells=d.cells.take off++ys++d.cells.drop (off+ys.length):=fun e1 e2=>by
  rw[e1]at h ⊢
  simp only[List.length_cons,List.length_nil]at h
  match ys,h,h0,h1,e2 with
  | [y],h,_,h1,e2 =>
   have:off=0:=by simp at h; omega
   subst this
   rw[e2]
   simp only[List.all_cons,List.all_nil,Bool.and_true]at h1
   simp[hone y h1]
  | _::_::_,h,_,_,_=>simp at h; omega
 cases d with
 | ag m=>rfl
 | v x=>exact other rfl rfl
 | tu m=>exact other rfl rfl
 | sl sz m=>exact other rfl rfl
 | ne b=>exact other rfl rfl
theorem Je0{α:Type}(A u B yc:List α)(off:Nat)(h:off+yc.length≤u.length):
  (A++u++B).take (A.length+off)++yc++(A++u++B).drop (A.length+off+yc.length)=A++(u.take off++yc++u.drop (off+yc.length))++B:=by
 have e1:(A++u++B).take (A.length+off)=A++u.take off:=by
  rw[List.append_assoc,List.take_append,List.take_of_length_le (by omega),show A.length+off-A.length=off by omega,List.take_append,show off-u.length=0 by omega,List.take_zero,List.append_nil]
 have e2:(A++u++B).drop (A.length+off+yc.length)=u.drop (off+yc.length)++B:=by
  rw[List.append_assoc,List.drop_append,List.drop_of_length_le (by omega),List.nil_append,show A.length+off+yc.length-A.length=off+yc.length by omega,List.drop_append,show off+yc.length-u.length=0 by omega,List.drop_zero]
 rw[e1,e2]
 simp only[List.append_assoc]
theorem Jhb{α:Type}(us:List α)(a k:Nat)(h:a+k≤us.length):us=us.take a++(us.drop a).take k++us.drop (a+k):=by
 rw[← List.drop_drop,List.append_assoc,List.take_append_drop,List.take_append_drop]
def XL(P:Program)(h:Hp)(t:TypeId)(y:AV)(n sz i off:Nat):Option (List C)→AR
 | some [.arr sz' l]=>⟨sz=sz'∧i<l.length∧Kn P t=true∧y.rowOk=true∧y.row.all C.one=true∧(sizeRow (tCS P t) y.row).all C.isD=true∧((sizeRow (tCS P t) y.row).map C.toD).all D.one=true ∧
   y.row.length=Jl P t∧0<y.row.length∧off+y.row.length≤sz,.c (.d (.v undef)),
   { h with H:=upd h.H n (some [.arr sz (l.set i (putD (l.getD i default) off ((sizeRow (tCS P t) y.row).map C.toD)))]) }⟩
 | some [.arr sz' l,_]=>⟨sz=sz'∧off=0∧i=l.length∧Kn P t=true∧y.rowOk=true∧y.row.all C.one=true∧y.row.length=Jl P t∧y.row.length=1,.c (.d (.v undef)),
   { h with H:=upd h.H n (some (.arr sz l::sizeRow (tCS P t) y.row)) }⟩
 | _=>.bad h
def JaR(P:Program)(h:Hp)(σ:Nat→AV)(t:TypeId)(x y:Operand):AR :=
 match evA σ x with
 | .c (.pt n off)=>match h.H n with
  | some row=>⟨rowP row=true∧Kn P t=true∧(evA σ y).rowOk=true∧(evA σ y).row.all C.one=true∧(evA σ y).row.length=Jl P t∧off+(evA σ y).row.length≤row.length,.c (.d (.v undef)),
    { h with H:=upd h.H n (some (Jcu n row (row.take off++sizeRow (tCS P t) (evA σ y).row++row.drop (off+(evA σ y).row.length)))) }⟩
  | none=>.bad h
 | .c (.pa n sz i off)=>XL P h t (evA σ y) n sz i off (h.H n)
 | _=>.bad h
theorem JlP{Γ:Ctx}{σ:Nat→AV}{h:Hp}(o:Oper)(t:TypeId)(x y:Operand)(ho:o.op=.store t x y)(hp:(JaR Γ.P h σ t x y).pre):
  VR Γ o σ h (JaR Γ.P h σ t x y).val (JaR Γ.P h σ t x y).h:=by
 unfold JaR at *
 split at hp
 ·rename_i n off hx
  split at hp
  ·rename_i row hrow
   obtain⟨p0,p1,p2,p3,p4,p5⟩:=hp
   intro a e hop hw K Q hk
   have h1:=hop x (by simp[ho,Op.operands])
   rw[hx]at h1
   obtain⟨b,h2,h3⟩:=h1
   have hy:=(hop y (by simp[ho,Op.operands])).row p2
   obtain⟨b',cs,ty,h4,h5,h6,h7,_⟩:=hw.boxAt h2 row hrow (V1 p0)
   have h6:=h6.plain p0
   rw[h2]at h4
   simp at h4
   subst h4
   have hl1:=hy.length
   have hl2:=h6.length
   have hrn:=((h6.take off).append (hy.sizeRow (tCS Γ.P t))).append (h6.drop (off+(evA σ y).row.length))
   obtain⟨w2,l2⟩:=hw.setBox (vs:=cs.toList.take off++(a.eval y).cells.toList++cs.toList.drop (off+(evA σ y).row.length)) hrow h2 h5 (.of (JiM h6 hrn)) (by simp at hl1 hl2 ⊢; omega) (V1 p0) (fun _=>p0)
   have hsc:=run_storeCells_at Γ.P b off ty (a.eval y).cells.toList 0 cs e.w h5 (by simp at hl1 hl2 ⊢; omega) (hy.one p3)
   simp only[Nat.add_zero]at hsc
   refine JcK ?_ (hk undef _ w2 l2 (.v _))
   have hsz:=Kk Γ.P t e.w p1
   have hcs:(a.eval y).cells.size=Jl Γ.P t:=by rw[← p4,← hl1]; simp
   simp only[execOp,ho,h3,Instr.storeAt,Instr.sureAddr,storeVar,Sem.run_bind,Sem.run_pure,Result.andThen_ok,hsz,hcs,ne_eq,not_true_eq_false,if_false,hsc,hl1]
  ·exact hp.elim
 ·rename_i n sz i off hx
  unfold XL at *
  split at hp
  ·rename_i sz' l hrow
   obtain⟨rfl,hil,p1,p2,p3,p6,p7,p4,p8,p5⟩:=hp
   intro a e hop hw K Q hk
   have h1:=hop x (by simp[ho,Op.operands])
   rw[hx]at h1
   obtain⟨b,h2,h3⟩:=h1
   have hy:=(hop y (by simp[ho,Op.operands])).row p2
   obtain⟨b',cs,ty,h4,h5,h6,h7,_⟩:=hw.boxAt h2 _ hrow rfl
   rw[h2]at h4
   simp at h4
   subst h4
   obtain⟨us,ts,zs,cap,k1,k2,k3,k4,k5,k6,k7,k8,k9⟩:=h6
   have hts:ts=[]:=by cases ts with | nil=>rfl | cons _ _=>exact k4.elim
   subst hts
   rw[List.append_nil]at k1
   have hl1:=hy.length
   have hyD:=RCs.toD p6 (hy.sizeRow (tCS Γ.P t))
   have hul:us.length=l.length * sz:=by rw[k2.length,Kz k3]
   have hmul:i * sz+sz≤l.length * sz:=by have:=Nat.mul_le_mul_right sz (show i+1≤l.length by omega); rwa [Nat.add_mul,Nat.one_mul]at this
   have hd:l[i]? = some (l.getD i default):=by simp[List.getD_eq_getElem?_getD,List.getElem?_eq_getElem hil]
   have hdl:(l.getD i default).cells.length=sz:=k3 _ (by rw[List.getD_eq_getElem?_getD,List.getElem?_eq_getElem hil]; simp)
   have hfl:=Jd8 k3 _ _ hd
   have hmid:=Jhb us (i * sz) sz (by omega)
   generalize hA:us.take (i * sz)=A at hmid
   generalize hu:(us.drop (i * sz)).take sz=u at hmid
   generalize hB:us.drop (i * sz+sz)=B at hmid
   have hAl:A.length=i * sz:=by rw[← hA,List.length_take]; omega
   have hul':u.length=sz:=by rw[← hu,List.length_take,List.length_drop]; omega
   have hru:Rn e.w e.S (l.getD i default).cells u:=by rw[← hu,← hfl]; exact(k2.drop _).take _
   have hrA:Rn e.w e.S ((l.take i).flatMap D.cells) A:=by rw[← hA,Jbu _ k3]; exact k2.take _
   have hrB:Rn e.w e.S ((l.drop (i+1)).flatMap D.cells) B:=by rw[← hB,Jck _ k3,Nat.add_mul,Nat.one_mul]; exact k2.drop _
   have hyl:((sizeRow (tCS Γ.P t) (evA σ y).row).map C.toD).length=(evA σ y).row.length:=by rw[List.length_map,JcI]
   have hpc:=JjD (d:=l.getD i default) (off:=off) (ys:=(sizeRow (tCS Γ.P t) (evA σ y).row).map C.toD) (by rw[hyl,hdl]; exact p5) (by rw[hyl]; exact p8) p7
   have hpl:(putD (l.getD i default) off ((sizeRow (tCS Γ.P t) (evA σ y).row).map C.toD)).cells.length=sz:=by
    rw[hpc]
    simp only[List.length_append,List.length_take,List.length_drop,hyl,hdl]
    omega
   have hrn:Rn e.w e.S ((l.set i (putD (l.getD i default) off ((sizeRow (tCS Γ.P t) (evA σ y).row).map C.toD))).flatMap D.cells) (A++(u.take off++(a.eval y).cells.toList++u.drop (off+(a.eval y).cells.toList.length))++B):=by
    rw[List.set_eq_take_append_cons_drop,if_pos hil,List.flatMap_append,List.flatMap_cons,hpc,← List.append_assoc]
    refine(hrA.append (((hru.take _).append hyD).append ?_)).append hrB
    rw[hyl,← hl1]
    exact hru.drop _
   have hcs0:cs.toList=A++u++(B++zs):=by rw[k1,hmid,List.append_assoc (A++u)]
   have hsp:=Je0 A u (B++zs) (a.eval y).cells.toList off (by rw[hl1,hul']; exact p5)
   rw[← hcs0,hAl]at hsp
   have hcl:cs.toList.length=A.length+(u.length+(B.length+zs.length)):=by rw[hcs0]; simp only[List.length_append]; omega
   have hnl:(A++(u.take off++(a.eval y).cells.toList++u.drop (off+(a.eval y).cells.toList.length))++(B++zs)).length=cs.size:=by
    rw[← Array.length_toList,hcl]
    simp only[List.length_append,List.length_take,List.length_drop]
    omega
   obtain⟨w2,l2⟩:=hw.setBox (vs:=A++(u.take off++(a.eval y).cells.toList++u.drop (off+(a.eval y).cells.toList.length))++(B++zs)) (row':=[.arr sz (l.set i (putD (l.getD i default) off ((sizeRow (tCS Γ.P t) (evA σ y).row).map C.toD)))]) hrow h2 h5
    ⟨_,[],zs,cap,by rw[List.append_nil,← List.append_assoc],hrn,fun d hdm=>by
     rcases List.mem_or_eq_of_mem_set hdm with h | h
     ·exact k3 d h
     ·rw[h]; exact hpl,trivial,.inl rfl,k6,by rw[hnl]; simpa using k7,k8,k9⟩ hnl rfl (fun hq=>by cases hq)
   have hsc:=run_storeCells_at Γ.P b (i * sz+off) ty (a.eval y).cells.toList 0 cs e.w h5 (by rw[← Array.length_toList,hcl]; omega) (hy.one p3)
   simp only[Nat.add_zero]at hsc
   rw[hsp]at hsc
   refine JcK ?_ (hk undef _ w2 l2 (.v _))
   have hsz:=Kk Γ.P t e.w p1
   have hcs:(a.eval y).cells.size=Jl Γ.P t:=by rw[← p4,← hl1]; simp
   simp only[execOp,ho,h3,Instr.storeAt,Instr.sureAddr,storeVar,Sem.run_bind,Sem.run_pure,Result.andThen_ok,hsz,hcs,ne_eq,not_true_eq_false,if_false,hsc]
  ·rename_i sz' l c hrow
   obtain⟨rfl,rfl,rfl,p1,p2,p3,p4,p8⟩:=hp
   intro a e hop hw K Q hk
   have h1:=hop x (by simp[ho,Op.operands])
   rw[hx]at h1
   obtain⟨b,h2,h3⟩:=h1
   have hy:=(hop y (by simp[ho,Op.operands])).row p2
   obtain⟨b',cs,ty,h4,h5,h6,h7,_⟩:=hw.boxAt h2 _ hrow rfl
   rw[h2]at h4
   simp at h4
   subst h4
   obtain⟨us,ts,zs,cap,k1,k2,k3,k4,k5,k6,k7,k8,k9⟩:=h6
   have hz:sz=1:=k5.resolve_left (by simp)
   have hl1:=hy.length
   have hul:us.length=l.length * sz:=by rw[k2.length,Kz k3]
   have htl:ts.length=1:=by simpa using k4.length
   have hsp:=Je0 us ts zs (a.eval y).cells.toList 0 (by omega)
   rw[← k1]at hsp
   have hcl:cs.toList.length=us.length+(ts.length+zs.length):=by rw[k1]; simp only[List.length_append]; omega
   have e0:ts.take 0++(a.eval y).cells.toList++ts.drop (0+(a.eval y).cells.toList.length)=(a.eval y).cells.toList:=by
    rw[List.take_zero,List.nil_append,List.drop_of_length_le (by omega),List.append_nil]
   rw[e0,Nat.add_zero,hul]at hsp
   have hnl:(us++(a.eval y).cells.toList++zs).length=cs.size:=by
    rw[← Array.length_toList,hcl]
    simp only[List.length_append]
    omega
   obtain⟨w2,l2⟩:=hw.setBox (vs:=us++(a.eval y).cells.toList++zs) (row':=.arr sz l::sizeRow (tCS Γ.P t) (evA σ y).row) hrow h2 h5
    ⟨us,_,zs,cap,rfl,k2,k3,hy.sizeRow _,.inr hz,k6,by rw[hnl]; simpa using k7,k8,k9⟩ hnl rfl (fun hq=>by cases hq)
   have hsc:=run_storeCells_at Γ.P b (l.length * sz+0) ty (a.eval y).cells.toList 0 cs e.w h5 (by rw[← Array.length_toList,hcl]; omega) (hy.one p3)
   simp only[Nat.add_zero]at hsc
   rw[hsp]at hsc
   refine JcK ?_ (hk undef _ w2 l2 (.v _))
   have hsz:=Kk Γ.P t e.w p1
   have hcs:(a.eval y).cells.size=Jl Γ.P t:=by rw[← p4,← hl1]; simp
   simp only[execOp,ho,h3,Instr.storeAt,Instr.sureAddr,storeVar,Sem.run_bind,Sem.run_pure,Result.andThen_ok,hsz,hcs,ne_eq,not_true_eq_false,if_false,hsc,Nat.add_zero]
  ·exact hp.elim
 ·exact hp.elim
theorem JdQ:∀ (l:List Value) (k off:Nat) (cs:Array Value),off+k+l.length≤cs.size →
  ((l.zipIdx k).foldl (fun(cs:Array Value) p=>cs.setIfInBounds (off+p.2) p.1) cs).toList=cs.toList.take (off+k)++l++cs.toList.drop (off+k+l.length)
 | [],k,off,cs,_=>by simp
 | v::l,k,off,cs,h=>by
  simp only[List.zipIdx_cons,List.foldl_cons]
  rw[JdQ l (k+1) off _ (by simp at h ⊢; omega)]
  have hlt:off+k<cs.toList.length:=by simp at h ⊢; omega
  rw[Array.toList_setIfInBounds,show off+(k+1)=off+k+1 by omega,List.set_eq_take_append_cons_drop,if_pos hlt]
  generalize cs.toList=L at hlt ⊢
  have c1:(L.take (off+k)).length=off+k:=by simp; omega
  have t1:(L.take (off+k)++v::L.drop (off+k+1)).take (off+k+1)=L.take (off+k)++[v]:=by
   rw[List.take_append,c1,List.take_of_length_le (by omega),show off+k+1-(off+k)=1 by omega]; rfl
  have t2:(L.take (off+k)++v::L.drop (off+k+1)).drop (off+k+1+l.length)=L.drop (off+k+(l.length+1)):=by
   have t3:(L.take (off+k)).drop (off+k+1+l.length)=[]:=List.drop_of_length_le (by omega)
   rw[List.drop_append,c1,t3,show off+k+1+l.length-(off+k)=l.length+1 by omega,List.nil_append,List.drop_succ_cons,List.drop_drop]
   congr 1
   omega
  rw[t1,t2]
  simp
theorem JeK(size:Nat):∀ (parts:List (Nat×Value)) (k:Nat) (cells:Array Value),
  (∀ i p,parts[i]? = some p→p.1=k+i∧p.2.cells.size=size)→(k+parts.length) * size≤cells.size →
  ∃ out,Instr.fill (fun i=>some (i * size,size)) cells parts=some out∧out.toList=cells.toList.take (k * size)++parts.flatMap (·.2.cells.toList)++cells.toList.drop ((k+parts.length) * size)
 | [],k,cells,_,_=>⟨cells,rfl,by simp⟩
 | (i,v)::parts,k,cells,h,hs=>by
  have h0:=h 0 (i,v) rfl
  simp at h0
  obtain⟨rfl,hv⟩:=h0
  have hle:(i+1) * size≤cells.size:=Nat.le_trans (Nat.mul_le_mul_right _ (by simp)) hs
  rw[Nat.add_mul,Nat.one_mul]at hle
  have hset:=JdQ v.cells.toList 0 (i * size) cells (by simp[hv]; omega)
  simp only[Nat.add_zero]at hset
  have hfold:(v.cells.zipIdx.foldl (fun cs (x:Value×Nat)=>cs.setIfInBounds (i * size+x.2) x.1) cells)=((v.cells.toList.zipIdx 0).foldl (fun(cs:Array Value) p=>cs.setIfInBounds (i * size+p.2) p.1) cells):=by
   rw[← Array.foldl_toList,Array.toList_zipIdx]
  obtain⟨out,h1,h2⟩:=JeK size parts (i+1) (v.cells.zipIdx.foldl (fun cs (x:Value×Nat)=>cs.setIfInBounds (i * size+x.2) x.1) cells)
   (fun j p hj=>by
    have:=h (j+1) p (by simpa using hj)
    exact⟨by omega,this.2⟩) (by
    have hsz:(v.cells.zipIdx.foldl (fun cs (x:Value×Nat)=>cs.setIfInBounds (i * size+x.2) x.1) cells).size=cells.size:=by
     rw[hfold]
     have:=congrArg List.length hset
     simp[hv]at this
     omega
    rw[hsz]
    simpa [show i+1+parts.length=i+(parts.length+1) by omega] using hs)
  refine⟨out,?_,?_⟩
  ·unfold Instr.fill
   simp only[hv,ne_eq,not_true_eq_false,decide_false,Bool.false_or,decide_eq_true_eq]
   rw[if_neg (by omega)]
   exact h1
  ·rw[h2,hfold,hset]
   have e1:(i+1) * size=i * size+size:=by rw[Nat.add_mul,Nat.one_mul]
   have e2:(i+1+parts.length) * size=(i+(parts.length+1)) * size:=by congr 1; omega
   have hvl:v.cells.toList.length=size:=by simpa using hv
   have e3:(i+1+parts.length) * size=i * size+size+parts.length * size:=by rw[Nat.add_mul,e1]
   rw[List.flatMap_cons,List.length_cons]
   have c1:(cells.toList.take (i * size)).length=i * size:=by simp; omega
   generalize hA:cells.toList.take (i * size)=A at c1 ⊢
   have t1:(A++v.cells.toList++cells.toList.drop (i * size+v.cells.toList.length)).take ((i+1) * size)=A++v.cells.toList:=by
    rw[List.take_append,List.take_of_length_le (by simp[c1,hv]; omega)]
    simp[c1,hv,e1]
   have t2:(A++v.cells.toList++cells.toList.drop (i * size+v.cells.toList.length)).drop ((i+1+parts.length) * size)=cells.toList.drop ((i+(parts.length+1)) * size):=by
    rw[List.drop_append,List.drop_of_length_le (by simp[c1,hv]; omega),List.drop_drop]
    simp only[List.nil_append,List.length_append,c1,hvl]
    congr 1
    omega
   rw[t1,t2]
   simp
theorem JeP(w:World)(out:Array Value)(el:TypeId)(j:Nat):(w.alloc (.cells out el)).cell? ⟨w.heap.size,j,none⟩=out[j]? := by
 have hn:=heap_alloc_new w (.cells out el)
 unfold World.cell?
 simp only[]
 rw[hn]
 rfl
theorem Jfg(P:Program)(w:World)(el:TypeId)(out:Array Value):(newRow el out).run P w=.ok ⟨w.heap.size,0,none⟩ (w.alloc (.cells out el)):=by
 simp only[newRow,Sem.run_bind,run_newObj,Result.andThen_ok,Sem.run_pure]; rfl
theorem JcB{P:Program}{w:World}{t el:TypeId}{len sz:Nat}{z:Value}{parts:Array (Nat×Value)}{out:Array Value}
  (hu:P.underlying t=some (.slice el)) (hs:(sizeOf el).run P w=.ok sz w) (hz:(zeroValue el).run P w=.ok z w) (hl:len * sz≤16777216)
  (hf:Instr.fill (fun i=>some (i * sz,sz)) ((Array.range (len * sz)).map (z.cells[· % z.cells.size]!)) parts.toList=some out) :
  (Instr.buildSlice t len parts).run P w=.ok (.slice (some ⟨w.heap.size,0,none⟩) len len) (w.alloc (.cells out el)):=by
 have hif:¬ (len * sz > 2 ^ 24):=by omega
 unfold Instr.buildSlice
 by_cases h0:len * sz=0
 ·rw[h0]at hf
  have hf':Instr.fill (fun i=>some (i * sz,sz)) ((Array.range 0).map ((#[]:Array Value)[· % (#[]:Array Value).size]!)) parts.toList=some out:=by
   have hr0:Array.range 0=#[]:=by simp
   rw[← hf,hr0,Array.map_empty,Array.map_empty]
  simp only[Sem.run_bind,run_underlying hu,Result.andThen_ok,hs,hif,if_false,h0,if_true,Sem.run_pure,hf',Jfg,Nat.zero_le,show ¬ (0 > 2 ^ 24) by omega]
 ·simp only[Sem.run_bind,run_underlying hu,Result.andThen_ok,hs,hif,if_false,h0,hz,Sem.run_pure,hf,Jfg]
theorem R1.cells{w:World}{S:Nat→Nat→Prop}:∀ {d:D} {v:Value},R1 w S d v→(AV.c (.d d)).rowOk=true→Rn w S d.cells v.cells.toList
 | .v x,v,h,k=>by
  have:=R1.vInv h; subst this
  rw[KI k]; exact .acons _ _ _ _ h .anil
 | .ag l,v,h,_=>by obtain⟨vs,rfl,h2⟩:=R1.agInv h; exact h2
 | .sl _ _,v,h,_=>by rw[KI (R1.slOne h)]; exact .acons _ _ _ _ h .anil
 | .ne b,v,h,k=>by
  have h':RD w S (.one (.ne b) v):=h
  cases h' with
  | ne0=>exact .acons _ _ _ _ h .anil
  | ne1 t p=>exact .acons _ _ _ _ h .anil
theorem AV.toD_rowOk{x:AV}(h:x.isD=true)(k:x.rowOk=true):(AV.c (.d x.toD)).rowOk=true:=by
 cases x with
 | ag l=>rfl
 | tu l=>cases h
 | df l=>cases h
 | c x=>cases x with
  | d y=>exact k
  | sl _ _ _=>rfl
  | fs _ _=>rfl
  | ex y d=>cases d <;> simp_all [AV.rowOk,D.one,AV.toD,C.toD]
  | _=>simp[AV.isD,C.isD]at h
def Jay:Nat→List (Nat×Operand)→Bool
 | _,[]=>true
 | k,(i,_)::l=>i == k && Jay (k+1) l
theorem JdK:∀ {l:List (Nat×Operand)} {k:Nat},Jay k l=true→∀ (i:Nat) (p:Nat×Operand),l[i]? = some p→p.1=k+i
 | [],_,_,i,p,h=>by simp at h
 | (j,x)::l,k,h,i,p,hi=>by
  simp only[Jay,Bool.and_eq_true,beq_iff_eq]at h
  cases i with
  | zero=>simp at hi; subst hi; simp[h.1]
  | succ i=>have:=JdK h.2 i p (by simpa using hi); omega
def Jbp:List (Nat×Operand)→Bool
 | [(_,.const (.slice none 0 0))]=>true
 | _=>false
def V8(P:Program)(σ:Nat→AV)(h:Hp)(t:TypeId)(len:Nat)(parts:List (Nat×Operand)):AR :=
 ⟨JM P t=true∧tZok P (Jk P t)=true∧(tZ P (Jk P t)).length=Jl P (Jk P t)∧0<Jl P (Jk P t)∧Jay 0 parts=true∧parts.length=len∧len * Jl P (Jk P t)≤16777216 ∧
  (parts.all fun p=>(evA σ p.2).isD && (evA σ p.2).rowOk && ((evA σ p.2).toD.cells.length == Jl P (Jk P t)))=true,
  if Jbp parts=true∧ZA t=true then .c .nl else .c (.sl (Jl P (Jk P t)) (parts.map fun p=>sizeD (tCS P (Jk P t)) (evA σ p.2).toD) 0),h⟩
theorem Jhd{Γ:Ctx}{σ:Nat→AV}{h:Hp}(o:Oper)(t:TypeId)(len:Nat)(parts:Array (Nat×Operand))(ho:o.op=.buildSlice t len parts)(hp:(V8 Γ.P σ h t len parts.toList).pre):
  VR Γ o σ h (V8 Γ.P σ h t len parts.toList).val (V8 Γ.P σ h t len parts.toList).h:=by
 obtain⟨p1,p2,p3,p4,p5,p6,p7,p8⟩:=hp
 intro a e hop hw K Q hk
 unfold JM at p1
 split at p1
 ·rename_i el hu
  simp only[Bool.and_eq_true]at p1
  have he:Jk Γ.P t=el:=by simp[Jk,hu]
  simp only[V8,he]at p2 p3 p4 p7 p8 hk ⊢
  have hs:=Kk Γ.P el e.w (by simp[Kn,p1])
  obtain⟨z,hz,hz2,_⟩:=Vz p2 e.w
  generalize hsz:Jl Γ.P el=sz at *
  have hzl:z.cells.size=sz:=by rw[← p3,← hz2]; simp
  -- the values,in a row
  generalize tCS Γ.P el=ss at *
  have hall:∀ p∈parts.toList,R1 e.w e.S (sizeD ss (evA σ p.2).toD) (a.eval p.2)∧Rn e.w e.S (sizeD ss (evA σ p.2).toD).cells (a.eval p.2).cells.toList∧(sizeD ss (evA σ p.2).toD).cells.length=sz:=fun p hpm=>by
   have h1:=List.all_eq_true.1 p8 p hpm
   simp only[Bool.and_eq_true,beq_iff_eq]at h1
   have h2:=hop p.2 (by simp only[ho,Op.operands,List.mem_toArray,List.mem_map]; exact⟨p,hpm,rfl⟩)
   have h3:=(h2.toD h1.1.1).sizeD ss
   have h4:=AV.toD_rowOk h1.1.1 h1.1.2
   exact⟨h3,h3.cells (by
    revert h4
    cases (evA σ p.2).toD with
    | ag l=>intro _; rfl
    | tu l=>intro h; simp[AV.rowOk]at h
    | ne b=>exact id
    | v x=>exact id
    | sl n l=>intro _; unfold sizeD; simp only; unfold sizeD0; split <;> rfl),by rw[JiE]; exact h1.2⟩
  have hcells:∀ (l:List (Nat×Operand)),(∀ p∈l,p∈parts.toList)→Rn e.w e.S ((l.map fun p=>sizeD ss (evA σ p.2).toD).flatMap D.cells) ((l.map fun p=>(p.1,a.eval p.2)).flatMap (·.2.cells.toList)):=by
   intro l
   induction l with
   | nil=>intro _; exact .anil
   | cons p l ih =>
    intro hl
    simp only[List.map_cons,List.flatMap_cons]
    exact(hall p (hl p (by simp))).2.1.append (ih fun q hq=>hl q (by simp[hq]))
  have hR:=hcells parts.toList fun _ h=>h
  obtain⟨out,ho1,ho2⟩:=JeK sz (parts.toList.map fun p=>(p.1,a.eval p.2)) 0 ((Array.range (len * sz)).map (z.cells[· % z.cells.size]!)) (fun i p hi=>by
   rw[List.getElem?_map,Option.map_eq_some_iff]at hi
   obtain⟨q,hq,rfl⟩:=hi
   have:=JdK p5 i q hq
   refine⟨by simpa using this,?_⟩
   have h3:=hall q (List.mem_of_getElem? hq)
   have h4:=h3.2.1.length
   simp at h4
   show(a.eval q.2).cells.size=sz
   omega) (by simp at p6 ⊢; rw[p6]; exact Nat.le_refl _)
  have hout:out.toList=(parts.toList.map fun p=>(p.1,a.eval p.2)).flatMap (·.2.cells.toList):=by
   rw[ho2]
   simp at p6
   simp[p6]
  have hg:=Grows.alloc e.w (.cells out el)
  obtain⟨w1,l1⟩:=hw.quiet hg
  have hfin:R1 (e.w.alloc (.cells out el)) e.S (.sl sz (parts.toList.map fun p=>sizeD ss (evA σ p.2).toD)) (.slice (some ⟨e.w.heap.size,0,none⟩) len len):=by
   have hlen:(parts.toList.map fun p=>sizeD ss (evA σ p.2).toD).length=len:=by simpa using p6
   have:=RD.sl (w:=e.w.alloc (.cells out el)) (S:=e.S) sz (parts.toList.map fun p=>sizeD ss (evA σ p.2).toD) _ e.w.heap.size 0 len (RD.mono l1.keep hR) (fun i x hx=>by
    rw[← hout]at hx
    refine⟨?_,fun hS=>by have:=hw.sdom _ _ hS; omega⟩
    rw[JeP]
    simpa using hx) (fun d hd=>by
    rw[List.mem_map]at hd
    obtain⟨p,hpm,rfl⟩:=hd
    exact(hall p hpm).2.2) (by omega)
   rwa [hlen]at this
  have hRA:RA { e with w:=e.w.alloc (.cells out el) } (if Jbp parts.toList=true∧ZA t=true then .c .nl else .c (.sl sz (parts.toList.map fun p=>sizeD ss (evA σ p.2).toD) 0)) (.slice (some ⟨e.w.heap.size,0,none⟩) len len):=by
   by_cases hn:Jbp parts.toList=true∧ZA t=true
   ·rw[if_pos hn]
    replace hn:=hn.1
    unfold Jbp at hn
    split at hn
    ·rename_i k hpl
     rw[hpl]at p6 hout
     have hl1:len=1:=by simpa using p6.symm
     subst hl1
     refine⟨e.w.heap.size,rfl,?_,fun hS=>by have:=hw.sdom _ _ hS; omega⟩
     show(e.w.alloc (.cells out el)).cell? _=_
     rw[JeP,← Array.getElem?_toList,hout]
     rfl
    ·cases hn
   ·rw[if_neg hn]
    exact⟨hfin,.inl ⟨_,_,rfl⟩⟩
  refine KM (v:=.slice (some ⟨e.w.heap.size,0,none⟩) len len) (w':=e.w.alloc (.cells out el)) ?_ (hk _ _ w1 l1 hRA)
  have hmap:(parts.map fun(x:Nat×Operand)=>(x.1,a.eval x.2)).toList=parts.toList.map fun p=>(p.1,a.eval p.2):=by simp
  have hrun:=JcB (parts:=parts.map fun(x:Nat×Operand)=>(x.1,a.eval x.2)) hu hs hz p7 (by rw[hmap]; exact ho1)
  simp only[execOp,ho]
  rw[Sem.run_bind,hrun]
  rfl
 ·simp at p1
end Go.Proofs.YtfkhlbhjhdpkoaaDoor
