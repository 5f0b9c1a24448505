/- Pure data,and what it means that a value of memory represents data. -/
import Derived.WalkKit
import Derived.Orders
import Derived.Maps.OwnSet
import Derived.Laws.StructEq
set_option linter.unusedVariables false
set_option linter.unusedSimpArgs false
namespace Go.Proofs.Ytaofbminodhcnaa
open Go.RowKit
inductive D where
 | v (x:Value)
 | ag (l:List D)
 | tu (l:List D)
 | sl (sz:Nat) (l:List D)
 | ne (b:Bool)
 deriving Inhabited
def D.cells:D→List D
 | .ag l=>l
 | x=>[x]
inductive It where
 | one (d:D) (v:Value)
 | all (l:List D) (vs:List Value)
inductive RD (w:World) (S:Nat→Nat→Prop):It→Prop where
 | v (x:Value):RD w S (.one (.v x) x)
 | ag (l:List D) (vs:List Value):RD w S (.all l vs)→RD w S (.one (.ag l) (.agg ⟨vs⟩))
 | tu (l:List D) (vs:List Value):RD w S (.all l vs)→RD w S (.one (.tu l) (.tuple ⟨vs⟩))
 | slnil (sz:Nat) (o:Option Addr):RD w S (.one (.sl sz []) (.slice o 0 0))
 | sl (sz:Nat) (l:List D) (vs:List Value) (b o cap:Nat):RD w S (.all (l.flatMap D.cells) vs) →
   (∀ i x,vs[i]? = some x→w.cell? ⟨b,o+i,none⟩=some x∧¬ S b (o+i))→(∀ d∈l,d.cells.length=sz)→l.length≤cap →
   RD w S (.one (.sl sz l) (.slice (some ⟨b,o,none⟩) l.length cap))
 | ne0:RD w S (.one (.ne true) .nilIface)
 | ne1 (t:TypeId) (p:Value):RD w S (.one (.ne false) (.iface t p))
 | anil:RD w S (.all [] [])
 | acons (d:D) (x:Value) (l:List D) (vs:List Value):RD w S (.one d x)→RD w S (.all l vs)→RD w S (.all (d::l) (x::vs))
abbrev R1(w:World)(S:Nat→Nat→Prop)(d:D)(x:Value):Prop:=RD w S (.one d x)
abbrev Rn(w:World)(S:Nat→Nat→Prop)(l:List D)(vs:List Value):Prop:=RD w S (.all l vs)
def Keep(w:World)(S:Nat→Nat→Prop)(w':World)(S':Nat→Nat→Prop):Prop :=
 (∀ b o x,w.cell? ⟨b,o,none⟩=some x→¬ S b o→w'.cell? ⟨b,o,none⟩=some x∧¬ S' b o) ∧
  ∀ b es c,w.heap[b]? = some (.map es c)→¬ S b 0→w'.heap[b]? = some (.map es c)∧¬ S' b 0
def JeJ(w:World)(b o:Nat):Prop:=(∃ x,w.cell? ⟨b,o,none⟩=some x)∨(o=0∧∃ es c,w.heap[b]? = some (.map es c))
theorem JeJ.of{w w':World}{b o:Nat}(hb:w'.heap[b]? = w.heap[b]?)(h:JeJ w' b o):JeJ w b o:=by
 rcases h with⟨x,h⟩|⟨h,es,c,h2⟩
 ·exact .inl ⟨x,by rw[← h]; simp only[World.cell?,hb]⟩
 ·exact .inr ⟨h,es,c,by rw[← hb]; exact h2⟩
theorem Keep.mk{w w':World}{S S':Nat→Nat→Prop}(h:∀ b o,JeJ w b o→¬ S b o→w'.heap[b]? = w.heap[b]?∧¬ S' b o):Keep w S w' S' :=
 ⟨fun b o x hc hs=>let ⟨h1,h2⟩:=h b o (.inl ⟨x,hc⟩) hs; ⟨by rw[← hc]; simp only[World.cell?,h1],h2⟩,fun b es c hc hs=>let ⟨h1,h2⟩:=h b 0 (.inr ⟨rfl,es,c,hc⟩) hs; ⟨h1.trans hc,h2⟩⟩
theorem JeJ.lt{w:World}{b o:Nat}(h:JeJ w b o):b<w.heap.size:=by
 rcases h with⟨x,h⟩|⟨_,es,c,h⟩
 ·exact World.block_lt_of_cell? w _ h
 ·exact(Array.getElem?_eq_some_iff.1 h).1
theorem Keep.refl(w:World)(S:Nat→Nat→Prop):Keep w S w S:=⟨fun _ _ _ h g=>⟨h,g⟩,fun _ _ _ h g=>⟨h,g⟩⟩
theorem Keep.trans{w w1 w2:World}{S S1 S2:Nat→Nat→Prop}(h:Keep w S w1 S1)(k:Keep w1 S1 w2 S2):Keep w S w2 S2 :=
 ⟨fun b o x hc hs=>let ⟨h1,h2⟩:=h.1 b o x hc hs; k.1 b o x h1 h2,fun b es c hc hs=>let ⟨h1,h2⟩:=h.2 b es c hc hs; k.2 b es c h1 h2⟩
def Jq9:List (Nat×(Array Value→Prop)):=[]
def GW(w:World)(S:Nat→Nat→Prop):Prop:=∀ q∈Jq9,∃ cs ty,w.heap[q.1]? = some (.cells cs ty (0,0))∧q.2 cs∧0<cs.size∧∀ o,o<cs.size→¬ S q.1 o
theorem RD.mono{w w':World}{S S':Nat→Nat→Prop}(hk:Keep w S w' S'){it:It}(h:RD w S it):RD w' S' it:=by
 induction h with
 | v x=>exact .v x
 | ag l vs _ ih=>exact .ag l vs ih
 | tu l vs _ ih=>exact .tu l vs ih
 | slnil sz o=>exact .slnil sz o
 | sl sz l vs b o cap _ hc hs hl ih=>exact .sl sz l vs b o cap ih (fun i x hx=>let ⟨h1,h2⟩:=hc i x hx; hk.1 _ _ _ h1 h2) hs hl
 | ne0=>exact .ne0
 | ne1 t p=>exact .ne1 t p
 | anil=>exact .anil
 | acons d x l vs _ _ i1 i2=>exact .acons d x l vs i1 i2
theorem Rn.length{w:World}{S:Nat→Nat→Prop}:∀ {l:List D} {vs:List Value},Rn w S l vs→vs.length=l.length
 | [],_,h=>by cases h; rfl
 | _::_,_,h=>by cases h with | acons _ _ _ _ _ h2=>simp[Rn.length h2]
theorem Rn.append{w:World}{S:Nat→Nat→Prop}:∀ {l m:List D} {vs us:List Value},Rn w S l vs→Rn w S m us→Rn w S (l++m) (vs++us)
 | [],_,_,_,h,k=>by cases h; exact k
 | _::_,_,_,_,h,k=>by cases h with | acons _ _ _ _ h1 h2=>exact .acons _ _ _ _ h1 (Rn.append h2 k)
theorem Rn.get{w:World}{S:Nat→Nat→Prop}:∀ {l:List D} {vs:List Value},Rn w S l vs→∀ (i:Nat) (d:D),l[i]? = some d→∃ x,vs[i]? = some x∧R1 w S d x
 | [],_,_,i,d,h=>by simp at h
 | _::_,_,h,i,d,hi=>by
  cases h with
  | acons _ _ _ _ h1 h2 =>
   cases i with
   | zero=>simp at hi; subst hi; exact⟨_,rfl,h1⟩
   | succ i=>simpa using Rn.get h2 i d (by simpa using hi)
theorem Rn.drop{w:World}{S:Nat→Nat→Prop}:∀ {l:List D} {vs:List Value} (n:Nat),Rn w S l vs→Rn w S (l.drop n) (vs.drop n)
 | _,_,0,h=>h
 | [],_,n+1,h=>by cases h; exact .anil
 | _::_,_,n+1,h=>by cases h with | acons _ _ _ _ _ h2=>exact Rn.drop n h2
theorem Rn.take{w:World}{S:Nat→Nat→Prop}:∀ {l:List D} {vs:List Value} (n:Nat),Rn w S l vs→Rn w S (l.take n) (vs.take n)
 | _,_,0,h=>.anil
 | [],_,n+1,h=>by cases h; exact .anil
 | _::_,_,n+1,h=>by cases h with | acons _ _ _ _ h1 h2=>exact .acons _ _ _ _ h1 (Rn.take n h2)
theorem Rn.split{w:World}{S:Nat→Nat→Prop}{l m:List D}{vs:List Value}(h:Rn w S (l++m) vs):∃ us ts,vs=us++ts∧Rn w S l us∧Rn w S m ts:=by
 refine⟨vs.take l.length,vs.drop l.length,(List.take_append_drop _ _).symm,?_,?_⟩
 ·have:=Rn.take l.length h; simpa using this
 ·have:=Rn.drop l.length h; simpa using this
theorem Vt{sz:Nat}:∀ {l:List D},(∀ d∈l,d.cells.length=sz)→(l.flatMap D.cells).length=l.length * sz
 | [],_=>by simp
 | d::l,h=>by
  have h1:=h d (by simp)
  have h2:=Vt (l:=l) (fun d hd=>h d (by simp[hd]))
  simp[List.flatMap_cons,h1,h2,Nat.add_mul]; omega
theorem Jhu{sz:Nat}:∀ {l:List D},(∀ d∈l,d.cells.length=sz)→∀ (i:Nat) (d:D),l[i]? = some d→((l.flatMap D.cells).drop (i * sz)).take sz=d.cells
 | [],_,i,d,h=>by simp at h
 | e::l,hs,i,d,h=>by
  have h1:=hs e (by simp)
  cases i with
  | zero=>simp at h; subst h; simp[List.flatMap_cons,h1]
  | succ i =>
   have:=Jhu (l:=l) (fun d hd=>hs d (by simp[hd])) i d (by simpa using h)
   rw[List.flatMap_cons,show(i+1) * sz=e.cells.length+i * sz by rw[h1,Nat.add_mul]; omega,List.drop_append]
   rw[List.drop_of_length_le (by omega)]; simpa using this
end Go.Proofs.Ytaofbminodhcnaa
namespace Go.Proofs.Ytaofbminodhcnaa
open Go.RowKit Go.Maps
abbrev str(l:List UInt8):Value:=.string ⟨l.toArray⟩
abbrev ME:=List (List UInt8×Lit)
def mGet:ME→List UInt8→Option Lit
 | [],_=>none
 | (k,v)::r,s=>if s=k then some v else mGet r s
def anyE:Value→Option (DataW Unit×List MemPlace)
 | .int .i64 a=>some (.lit (.int .i64 a),[])
 | .bool b=>some (.lit (.bool b),[])
 | _=>none
theorem Jek{v:Value}{a:Int}{ps:List MemPlace}(h:anyE v=some (.lit (.int .i64 a),ps)):v=.int .i64 a:=by
 unfold anyE at h
 split at h
 ·simp only[Option.some.injEq,Prod.mk.injEq,DataW.lit.injEq,Lit.int.injEq,true_and]at h
  rw[h.1]
 ·simp at h
 ·cases h
def litV:Lit→Value
 | .int k a=>.int k a
 | .bool b=>.bool b
 | _=>undef
theorem Jpb{v:Value}{d:DataW Unit}{ps:List MemPlace}(h:anyE v=some (d,ps)):∃ x,d=.lit x∧v=litV x∧ps=[]:=by
 unfold anyE at h
 split at h
 ·cases h; exact⟨_,rfl,rfl,rfl⟩
 ·cases h; exact⟨_,rfl,rfl,rfl⟩
 ·cases h
def JoE(P:Program)(k:TypeId)(n:Nat)(D:DataW Unit)(o:Obj):Prop:=∃ es clock,o=.map es clock∧Go.WideElems.Fit P k anyE es clock∧es.size≤n∧D=.map ((es.toList.map (Go.WideElems.rg P k anyE)).foldr DataW.insert [])
theorem JeB{P:Program}{k:TypeId}{n b:Nat}{D:DataW Unit}{w:World}:w.ownsMap P k anyE b n D↔∃ o,w.heap[b]? = some o∧JoE P k n D o :=
 ⟨fun⟨es,c,h1,h2⟩=>⟨_,h1,es,c,rfl,h2⟩,fun⟨o,h1,es,c,h2,h3⟩=>⟨es,c,h2 ▸ h1,h3⟩⟩
def mapK(P:Program)(t:TypeId):TypeId:=match P.underlying t with | some (.map k _)=>k | _=>0
def mapV(P:Program)(t:TypeId):TypeId:=match P.underlying t with | some (.map _ e)=>e | _=>0
def mapZ(P:Program)(t:TypeId):Value:=(((P.info? (mapV P t)).bind (·.zero))).getD undef
structure MapT (P:Program) (t:TypeId):Prop where
 u:P.underlying t=some (.map (mapK P t) (mapV P t))
 key:P.underlying (mapK P t)=some .string
 z:∀ w,(zeroValue (mapV P t)).run P w=.ok (mapZ P t) w
 lit:∃ zl,anyE (mapZ P t)=some (.lit zl,[])
theorem MapT.K{P:Program}{t:TypeId}(h:MapT P t):Keyed P (mapK P t):=string_keyed h.key
theorem MapT.of{P:Program}{t:TypeId}(h:MapT P t){s:List UInt8}(hs:s.length≤9223372036854775807):keyOf P (mapK P t) (str s)=some (.string s):=by
 have h':s.length≤maxLen:=by unfold maxLen; exact hs
 have h2:(⟨s.toArray⟩:ByteArray).size≤maxLen:=h'
 simp only[keyOf,h.key,str,mapKey]
 rw[if_pos h2]
theorem MapT.inv{P:Program}{t:TypeId}(h:MapT P t){v:Value}{kl:Lit}(hk:keyOf P (mapK P t) v=some kl):∃ s:List UInt8,v=str s∧kl=.string s∧s.length≤9223372036854775807:=by
 simp[keyOf,h.key]at hk
 cases v <;> simp[mapKey,h.key]at hk
 rename_i b
 obtain⟨hb,rfl⟩:=hk
 refine⟨b.data.toList,rfl,rfl,?_⟩
 have:b.size≤maxLen:=hb
 unfold maxLen at this
 exact this
theorem MapT.mk'{P:Program}{t k e:TypeId}{z:Value}(hu:P.underlying t=some (.map k e))(hk:P.underlying k=some .string)(hz:∀ w,(zeroValue e).run P w=.ok z w)(hl:∃ zl,anyE z=some (.lit zl,[])):MapT P t∧mapZ P t=z:=by
 have e1:mapK P t=k:=by simp[mapK,hu]
 have e2:mapV P t=e:=by simp[mapV,hu]
 have e3:mapZ P t=z:=by
  have h:=hz default
  simp only[mapZ,e2]
  cases hi:P.info? e with
  | none=>simp[zeroValue,typeInfo,hi]at h
  | some i =>
   cases hz:i.zero with
   | none=>simp[zeroValue,typeInfo,hi,hz]at h
   | some z' =>
    simp[zeroValue,typeInfo,hi,hz]at h
    simp[hz,h]
 exact⟨⟨by rw[e1,e2]; exact hu,by rw[e1]; exact hk,by rw[e2,e3]; exact hz,by rw[e3]; exact hl⟩,e3⟩
structure MP where
 p:Obj→Prop
 P:Program
 t:TypeId
 ok:Value→Prop
 at_:Value→Value
 has:Value→Bool
 law:∀ {w:World} {b:Nat} {o:Obj},w.heap[b]? = some o→p o→∀ k,ok k→∀ c,(Instr.lookup t (.map (some b)) k c).run P w=.ok (if c=true then .tuple #[at_ k,.bool (has k)] else at_ k) w
instance:Inhabited MP:=⟨⟨fun _=>False,default,0,fun _=>False,fun _=>undef,fun _=>false,fun _ h=>h.elim⟩⟩
def Jd2(P:Program)(t:TypeId)(L:ME)(s:List UInt8):Value:=match mGet L s with | some x=>litV x | none=>mapZ P t
def JtA(P:Program)(t:TypeId)(L:ME)(o:Obj):Prop :=
 MapT P t∧∃ n D,n≤L.length∧JoE P (mapK P t) n D o∧∀ s:List UInt8,has D (.string s)=(mGet L s).isSome∧∀ zd,D.atKey (.string s) zd=match mGet L s with | some x=>.lit x | none=>zd
def EM(P:Program)(t:TypeId)(L:ME):MP where
 p:=JtA P t L
 P:=P
 t:=t
 ok v:=match v with | .string b=>b.size≤9223372036854775807 | _=>False
 at_ v:=match v with | .string b=>Jd2 P t L b.data.toList | _=>undef
 has v:=match v with | .string b=>(mGet L b.data.toList).isSome | _=>false
 law:=by
  rintro w b o hb ⟨hT,n,D,_,⟨es,clock,rfl,F,_,rfl⟩,hD⟩ k hk c
  match k,hk with
  | .string ⟨⟨s⟩⟩,hk =>
   have hs:s.length≤9223372036854775807:=hk
   obtain⟨zl,hzl⟩:=hT.lit
   obtain⟨_,hx,hzv,_⟩:=Jpb hzl
   cases hx
   obtain⟨d1,d2⟩:=hD s
   have d2:=d2 (.lit zl)
   show _=Result.ok (if c=true then .tuple #[Jd2 P t L s,.bool (mGet L s).isSome] else Jd2 P t L s) w
   rcases Maps.fit_look (w:=w) c hT.K hT.u (hT.z w) hb F (hT.of hs) with⟨h1,_,h3⟩|⟨e0,y,_,_,h1,h2,h3,_⟩
   ·have hh:=Maps.has_false_of_atKey h3
    rw[d1]at hh
    have hm:mGet L s=none:=by simpa using hh
    rw[Jd2,hm]
    exact h1
   ·have hh:=Maps.has_true_of_atKey h3
    rw[d1]at hh
    obtain⟨x,hm⟩:=Option.isSome_iff_exists.1 hh
    rw[h3,hm]at d2
    have hv:e0.val=litV x:=by
     obtain⟨x',e1,e2,_⟩:=Jpb h2
     rw[e1]at d2
     cases d2
     exact e2
    rw[Jd2,hm]
    rw[hv]at h1
    exact h1
theorem EM_P{P:Program}{t:TypeId}{L:ME}:(EM P t L).P=P:=rfl
theorem EM_t{P:Program}{t:TypeId}{L:ME}:(EM P t L).t=t:=rfl
theorem JvI{P:Program}{t:TypeId}{L:ME}{s:List UInt8}:(EM P t L).ok (str s)=(s.length≤9223372036854775807):=rfl
theorem JvR{P:Program}{t:TypeId}{L:ME}{s:List UInt8}:(EM P t L).at_ (str s)=Jd2 P t L s:=rfl
theorem Jt7{P:Program}{t:TypeId}{L:ME}{s:List UInt8}:(EM P t L).has (str s)=(mGet L s).isSome:=rfl
theorem Jx4{P:Program}{t:TypeId}(h:MapT P t):(EM P t []).p (.map #[] 0):=by
 obtain⟨es,clock,h1,h2,h3,h4⟩:=World.ownsMap_made (H:=Unit) default P (mapK P t) anyE
 rw[(MapKept.heap_alloc default _).1]at h1
 cases h1
 exact⟨h,0,.map [],Nat.le_refl _,⟨#[],0,rfl,h2,h3,h4⟩,fun s=>⟨rfl,fun zd=>rfl⟩⟩
end Go.Proofs.Ytaofbminodhcnaa
namespace Go.Proofs.Ytaofbminodhcnaa
open Go.RowKit
structure KP where
 p:World→Value→(Nat→Prop)→Prop
 fr:∀ (w w':World) (v:Value) (μ μ':Nat→Prop),p w v μ→(∀ m,μ m→w'.heap[m]? = w.heap[m]?)→(∀ m,μ m→μ' m)→p w' v μ'
instance:Inhabited KP:=⟨⟨fun _ _ _=>True,fun _ _ _ _ _ _ _ _=>trivial⟩⟩
def JjF:Obj→Bool
 | .cells _ _ _=>true
 | .map _ _=>true
 | _=>false
structure OP where
 p:Obj→Prop
 m:∀ o,p o→JjF o=true
instance:Inhabited OP:=⟨⟨fun _=>False,fun _ h=>h.elim⟩⟩
inductive C where
 | d (x:D)
 | sl (sz:Nat) (l:List D) (k:Nat)
 | pt (n off:Nat)
 | pp (l:List D)
 | ex (x:Value) (d:D)
 | top
 | arr (sz:Nat) (l:List D)
 | os (n sz off len:Nat)
 | pa (n sz i off:Nat)
 | nl
 | fs (sz:Nat) (l:List D)
 | clo (f:Nat) (ns:List Nat)
 | op (p:Bool) (n off:Nat)
 | bar (l:List UInt8)
 | kc (Φ:KP)
 | mo (n:Nat)
 | ob (Φ:OP)
 | fm (Φ:MP)
 deriving Inhabited
inductive AV where
 | c (x:C)
 | ag (l:List C)
 | tu (l:List (Bool×List C))
 | df (l:List (Nat×List C))
 deriving Inhabited
def AV.cells:AV→List C
 | .c x=>[x]
 | .ag l=>l
 | .tu _=>[]
 | .df _=>[]
def AV.comp:Bool×List C→AV
 | (true,l)=>.ag l
 | (false,[x])=>.c x
 | _=>.c .top
structure Env where
 w:World
 S:Nat→Nat→Prop
 ρ:Nat→Option Nat
 τ:Nat→Option Value
 μ:Nat→Nat→Prop
structure Env.le (e e':Env):Prop where
 keep:Keep e.w e.S e'.w e'.S
 names:∀ n b,e.ρ n=some b→e'.ρ n=some b
 toks:∀ n b,e.τ n=some b→e'.τ n=some b
theorem Env.le.refl(e:Env):e.le e:=⟨Keep.refl _ _,fun _ _ h=>h,fun _ _ h=>h⟩
theorem Env.le.trans{a b c:Env}(h:a.le b)(k:b.le c):a.le c :=
 ⟨h.keep.trans k.keep,fun _ _ x=>k.names _ _ (h.names _ _ x),fun _ _ x=>k.toks _ _ (h.toks _ _ x)⟩
def Vw(v:Value):Prop:=∃ a n,v=.slice a n n
def RP(e:Env):List Nat→List Value→Prop
 | [],[]=>True
 | n::ns,v::vs=>(∃ b,e.ρ n=some b∧v=.pointer (some ⟨b,0,none⟩))∧RP e ns vs
 | _,_=>False
theorem RP.mono{e e':Env}(h:e.le e'):∀ {ns:List Nat} {vs:List Value},RP e ns vs→RP e' ns vs
 | [],[],_=>trivial
 | _::_,_::_,⟨⟨b,h1,h2⟩,h3⟩=>⟨⟨b,h.names _ _ h1,h2⟩,RP.mono h h3⟩
theorem RP.length{e:Env}:∀ {ns:List Nat} {vs:List Value},RP e ns vs→vs.length=ns.length
 | [],[],_=>rfl
 | _::_,_::_,⟨_,h⟩=>by simp[RP.length h]
def tyV(t:TypeId):Value:=.int .i64 (t:Int)
def BTY:TypeId:=0
def UTY:TypeId:=5
def RC(e:Env):C→Value→Prop
 | .d x,v=>R1 e.w e.S x v
 | .sl sz l k,v=>R1 e.w e.S (.sl sz l) v∧(Vw v∨(k≠0∧e.τ k=some v))
 | .pt n off,v=>∃ b,e.ρ n=some b∧v=.pointer (some ⟨b,off,none⟩)
 | .pp l,v=>∃ b o vs,v=.pointer (some ⟨b,o,none⟩)∧Rn e.w e.S l vs∧∀ i x,vs[i]? = some x→e.w.cell? ⟨b,o+i,none⟩=some x∧¬ e.S b (o+i)
 | .ex x d,v=>v=x∧R1 e.w e.S d v
 | .top,_=>True
 | .arr _ _,_=>False
 | .os n sz off len,v=>(len=0∧∃ o,v=.slice o 0 0)∨∃ b cap,e.ρ n=some b∧e.τ n=some (.slice none cap cap)∧v=.slice (some ⟨b,off * sz,none⟩) len (cap-off)∧off+len≤cap
 | .pa n sz i off,v=>∃ b,e.ρ n=some b∧v=.pointer (some ⟨b,i * sz+off,none⟩)
 | .nl,v=>∃ b,v=.slice (some ⟨b,0,none⟩) 1 1∧e.w.cell? ⟨b,0,none⟩=some (.slice none 0 0)∧¬ e.S b 0
 | .fs sz l,v=>R1 e.w e.S (.sl sz l) v∧Vw v
 | .clo f ns,v=>∃ vs,RP e ns vs∧v=.func (.func f) #[] vs.toArray
 | .op p n off,v=>e.τ n=some (tyV BTY)∧((p=false∧v=.pointer none)∨(p=true∧∃ b,e.ρ n=some b∧v=.pointer (some ⟨b,off,none⟩)))
 | .bar _,_=>False
 | .kc _,_=>True
 | .mo n,v=>∃ b,e.ρ n=some b∧v=.map (some b)
 | .ob _,_=>False
 | .fm Φ,v=>∃ b es c,v=.map (some b)∧e.w.heap[b]? = some (.map es c)∧Φ.p (.map es c)∧¬ e.S b 0
def RCs(e:Env):List C→List Value→Prop
 | [],[]=>True
 | c::l,v::vs=>RC e c v∧RCs e l vs
 | _,_=>False
def RT(e:Env):Bool×List C→Value→Prop
 | (true,l),v=>∃ vs,v=.agg ⟨vs⟩∧RCs e l vs
 | (false,l),v=>∃ c,l=[c]∧RC e c v
def RTs(e:Env):List (Bool×List C)→List Value→Prop
 | [],[]=>True
 | c::l,v::vs=>RT e c v∧RTs e l vs
 | _,_=>False
def RA(e:Env):AV→Value→Prop
 | .c x,v=>RC e x v
 | .ag l,v=>∃ vs,v=.agg ⟨vs⟩∧RCs e l vs
 | .tu l,v=>∃ vs,v=.tuple ⟨vs⟩∧RTs e l vs
 | .df _,_=>False
theorem RC.mono{e e':Env}(h:e.le e'):∀ {c:C} {v:Value},RC e c v→RC e' c v
 | .d _,_,k=>RD.mono h.keep k
 | .sl _ _ k,v,⟨k1,k2⟩=>⟨RD.mono h.keep k1,k2.imp id fun k3=>⟨k3.1,h.toks _ _ k3.2⟩⟩
 | .pt _ _,_,⟨b,k1,k2⟩=>⟨b,h.names _ _ k1,k2⟩
 | .pp _,_,⟨b,o,vs,k1,k2,k3⟩=>⟨b,o,vs,k1,RD.mono h.keep k2,fun i x hx=>let ⟨h1,h2⟩:=k3 i x hx; h.keep.1 _ _ _ h1 h2⟩
 | .ex _ _,_,⟨k1,k2⟩=>⟨k1,RD.mono h.keep k2⟩
 | .top,_,_=>trivial
 | .os _ _ _ _,_,k=>k.imp id fun⟨b,cap,k1,k2,k3⟩=>⟨b,cap,h.names _ _ k1,h.toks _ _ k2,k3⟩
 | .fs _ _,_,⟨k1,k2⟩=>⟨RD.mono h.keep k1,k2⟩
 | .clo _ _,_,⟨vs,k1,k2⟩=>⟨vs,k1.mono h,k2⟩
 | .op _ _ _,_,k=>⟨h.toks _ _ k.1,k.2.imp id fun⟨k0,b,k1,k2⟩=>⟨k0,b,h.names _ _ k1,k2⟩⟩
 | .pa _ _ _ _,_,⟨b,k1,k2⟩=>⟨b,h.names _ _ k1,k2⟩
 | .nl,_,⟨b,k1,k2,k3⟩=>⟨b,k1,h.keep.1 _ _ _ k2 k3⟩
 | .kc _,_,_=>trivial
 | .mo _,_,⟨b,k1,k2⟩=>⟨b,h.names _ _ k1,k2⟩
 | .fm _,_,⟨b,es,c,k1,k2,k3,k4⟩=>⟨b,es,c,k1,(h.keep.2 _ _ _ k2 k4).1,k3,(h.keep.2 _ _ _ k2 k4).2⟩
theorem RCs.mono{e e':Env}(h:e.le e'):∀ {l:List C} {vs:List Value},RCs e l vs→RCs e' l vs
 | [],[],_=>trivial
 | _::_,_::_,⟨h1,h2⟩=>⟨RC.mono h h1,RCs.mono h h2⟩
theorem RT.mono{e e':Env}(h:e.le e'):∀ {c:Bool×List C} {v:Value},RT e c v→RT e' c v
 | (true,_),_,⟨vs,k1,k2⟩=>⟨vs,k1,RCs.mono h k2⟩
 | (false,_),_,⟨c,k1,k2⟩=>⟨c,k1,RC.mono h k2⟩
theorem RTs.mono{e e':Env}(h:e.le e'):∀ {l:List (Bool×List C)} {vs:List Value},RTs e l vs→RTs e' l vs
 | [],[],_=>trivial
 | _::_,_::_,⟨k1,k2⟩=>⟨RT.mono h k1,RTs.mono h k2⟩
theorem RTs.get{e:Env}:∀ {l:List (Bool×List C)} {vs:List Value},RTs e l vs→∀ i,i<l.length→∃ v,vs[i]? = some v∧RA e (AV.comp (l.getD i (false,[]))) v
 | [],[],_,i,h=>by simp at h
 | c::l,v::vs,⟨k1,k2⟩,i,h=>by
  cases i with
  | zero =>
   refine⟨v,rfl,?_⟩
   obtain⟨b,l'⟩:=c
   cases b with
   | true=>simp only[List.getD_cons_zero,AV.comp]; exact k1
   | false=>obtain⟨c,rfl,k1⟩:=k1; simp only[List.getD_cons_zero,AV.comp]; exact k1
  | succ i=>simpa using RTs.get k2 i (by simpa using h)
theorem RA.mono{e e':Env}(h:e.le e'):∀ {a:AV} {v:Value},RA e a v→RA e' a v
 | .c _,_,k=>RC.mono h k
 | .ag _,_,⟨vs,k1,k2⟩=>⟨vs,k1,RCs.mono h k2⟩
 | .tu _,_,⟨vs,k1,k2⟩=>⟨vs,k1,RTs.mono h k2⟩
theorem RCs.length{e:Env}:∀ {l:List C} {vs:List Value},RCs e l vs→vs.length=l.length
 | [],[],_=>rfl
 | _::_,_::_,⟨_,h2⟩=>by simp[RCs.length h2]
theorem RCs.get{e:Env}:∀ {l:List C} {vs:List Value},RCs e l vs→∀ (i:Nat) (c:C),l[i]? = some c→∃ x,vs[i]? = some x∧RC e c x
 | [],[],_,i,c,h=>by simp at h
 | _::_,_::_,⟨h1,h2⟩,i,c,hi=>by
  cases i with
  | zero=>simp at hi; subst hi; exact⟨_,rfl,h1⟩
  | succ i=>simpa using RCs.get h2 i c (by simpa using hi)
theorem RCs.drop{e:Env}:∀ {l:List C} {vs:List Value} (n:Nat),RCs e l vs→RCs e (l.drop n) (vs.drop n)
 | _,_,0,h=>h
 | [],[],_+1,_=>trivial
 | _::_,_::_,n+1,⟨_,h2⟩=>RCs.drop n h2
theorem RCs.take{e:Env}:∀ {l:List C} {vs:List Value} (n:Nat),RCs e l vs→RCs e (l.take n) (vs.take n)
 | [],[],0,_=>trivial
 | _::_,_::_,0,_=>trivial
 | [],[],_+1,_=>trivial
 | _::_,_::_,n+1,⟨h1,h2⟩=>⟨h1,RCs.take n h2⟩
theorem RCs.append{e:Env}:∀ {l m:List C} {vs us:List Value},RCs e l vs→RCs e m us→RCs e (l++m) (vs++us)
 | [],_,[],_,_,k=>k
 | _::_,_,_::_,_,⟨h1,h2⟩,k=>⟨h1,RCs.append h2 k⟩
def RB(e:Env)(n:Nat):List C→List Value→Prop
 | .arr sz l::cs,vs=>∃ us ts zs cap,vs=us++ts++zs∧Rn e.w e.S (l.flatMap D.cells) us∧(∀ d∈l,d.cells.length=sz)∧RCs e cs ts∧(cs=[]∨sz=1)∧0<sz∧vs.length=cap * sz∧cap≤maxLen ∧
   e.τ n=some (.slice none cap cap)
 | row,vs=>RCs e row vs
def JcG(t:TypeId):Bool:=([24,32]:List Nat).contains t
def JfF(t:TypeId):Bool:=([24,32]:List Nat).contains t && ([]:List Nat).contains t
def C.isArr:C→Bool
 | .arr _ _=>true
 | .bar _=>true
 | .ob _=>true
 | _=>false
def C.noK:C→Bool
 | .kc _=>false
 | _=>true
theorem Jcr{l:List C}(h:∀ c∈l,c.noK=true){j:Nat}{Φ:KP}(hj:l[j]? = some (C.kc Φ)):False:=by
 have:=h _ (List.mem_of_getElem? hj)
 cases this
def rowP:List C→Bool
 | []=>true
 | c::_=>!c.isArr
theorem RB.plain{e:Env}{n:Nat}{row:List C}{vs:List Value}(h:RB e n row vs)(hp:rowP row=true):RCs e row vs:=by
 unfold RB at h
 split at h
 ·simp[rowP,C.isArr]at hp
 ·exact h
theorem RB.of{e:Env}{n:Nat}{row:List C}{vs:List Value}(h:RCs e row vs):RB e n row vs:=by
 unfold RB
 split
 ·cases vs with
  | nil=>exact h.elim
  | cons v vs=>exact h.1.elim
 ·exact h
theorem RB.mono{e e':Env}(h:e.le e'){n:Nat}{row:List C}{vs:List Value}(k:RB e n row vs):RB e' n row vs:=by
 unfold RB at *
 split at k
 ·obtain⟨us,ts,zs,cap,k1,k2,k3,k4,k5,k6,k7,k8,k9⟩:=k
  exact⟨us,ts,zs,cap,k1,RD.mono h.keep k2,k3,RCs.mono h k4,k5,k6,k7,k8,h.toks _ _ k9⟩
 ·exact RCs.mono h k
def JpI(e:Env)(n:Nat)(row:List C):Prop:=e.ρ n=none∧((∃ sz,row=[.arr sz []]∧0<sz)∨row=[.bar []])
def JcF:List C→Bool
 | .bar _::_=>false
 | .ob _::_=>false
 | _=>true
def KG(l:List UInt8):List Value:=l.map fun b=>.int .u8 (b.toNat:Int)
def RO(e:Env)(n:Nat):List C→Obj→Prop
 | .bar l::r,o=>r=[]∧∃ cs fz zs,o=.cells cs UTY fz∧fz.2≤l.length∧cs.toList=KG l++zs∧cs.size≤maxLen∧e.τ n=some (.slice none cs.size cs.size)
 | .ob Φ::r,o=>r=[]∧Φ.p o
 | row,o=>∃ cs ty,o=.cells cs ty (0,0)∧RB e n row cs.toList∧(rowP row=true→e.τ n=some (tyV ty))
theorem RO.plain{e:Env}{n:Nat}{row:List C}{o:Obj}(h:RO e n row o)(hb:JcF row=true):∃ cs ty,o=.cells cs ty (0,0)∧RB e n row cs.toList:=by
 unfold RO at h
 split at h
 ·simp[JcF]at hb
 ·simp[JcF]at hb
 ·obtain⟨cs,ty,h1,h2,_⟩:=h; exact⟨cs,ty,h1,h2⟩
theorem RO.ty{e:Env}{n:Nat}{row:List C}{cs:Array Value}{ty:TypeId}{fz:Nat×Nat}(h:RO e n row (.cells cs ty fz))(hp:rowP row=true):e.τ n=some (tyV ty):=by
 unfold RO at h
 split at h
 ·simp[rowP,C.isArr]at hp
 ·simp[rowP,C.isArr]at hp
 ·obtain⟨cs',ty',h1,_,h3⟩:=h
  cases h1; exact h3 hp
theorem RO.of{e:Env}{n:Nat}{row:List C}{cs:Array Value}{ty:TypeId}(h:RB e n row cs.toList)(hτ:rowP row=true→e.τ n=some (tyV ty)):RO e n row (.cells cs ty (0,0)):=by
 unfold RO
 split
 ·exfalso
  unfold RB at h
  split at h
  ·rename_i he; simp at he
  ·cases hc:cs.toList with
   | nil=>rw[hc]at h; exact h.elim
   | cons v vs=>rw[hc]at h; exact h.1.elim
 ·exfalso
  unfold RB at h
  split at h
  ·rename_i he; simp at he
  ·cases hc:cs.toList with
   | nil=>rw[hc]at h; exact h.elim
   | cons v vs=>rw[hc]at h; exact h.1.elim
 ·exact⟨cs,ty,rfl,h,hτ⟩
theorem RO.arr{e:Env}{n sz:Nat}{l:List D}{r:List C}{cs:Array Value}{ty:TypeId}(h:RB e n (.arr sz l::r) cs.toList):RO e n (.arr sz l::r) (.cells cs ty (0,0)):=RO.of h (fun hq=>by cases hq)
theorem RO.mono{e e':Env}(h:e.le e'){n:Nat}{row:List C}{o:Obj}(k:RO e n row o):RO e' n row o:=by
 unfold RO at *
 split at k
 ·obtain⟨k0,cs,fz,zs,k1,k2,k3,k4,k5⟩:=k
  exact⟨k0,cs,fz,zs,k1,k2,k3,k4,h.toks _ _ k5⟩
 ·exact k
 ·obtain⟨cs,ty,k1,k2,k3⟩:=k
  exact⟨cs,ty,k1,RB.mono h k2,fun hp=>h.toks _ _ (k3 hp)⟩
def JcE:Obj→Nat
 | .cells c _ _=>c.size
 | .map _ _=>1
 | _=>0
theorem ZO:∀ {row:List C},rowP row=true→JcF row=true
 | [],_=>rfl
 | c::_,h=>by cases c <;> simp_all [rowP,JcF,C.isArr]
def C.toD:C→D
 | .d x=>x
 | .sl sz l _=>.sl sz l
 | .ex _ y=>y
 | .fs sz l=>.sl sz l
 | _=>.v undef
def C.isD:C→Bool
 | .d _ | .sl _ _ _ | .ex _ _ | .fs _ _=>true
 | _=>false
def AV.toD:AV→D
 | .c x=>x.toD
 | .ag l=>.ag (l.map C.toD)
 | .tu _=>.v undef
 | .df _=>.v undef
def AV.isD:AV→Bool
 | .c x=>x.isD
 | .ag l=>l.all C.isD
 | .tu _=>false
 | .df _=>false
theorem RC.toD{e:Env}:∀ {c:C} {v:Value},c.isD=true→RC e c v→R1 e.w e.S c.toD v
 | .d _,_,_,h=>h
 | .sl _ _ _,_,_,h=>h.1
 | .ex _ _,_,_,h=>h.2
 | .fs _ _,_,_,h=>h.1
theorem RCs.toD{e:Env}:∀ {l:List C} {vs:List Value},l.all C.isD=true→RCs e l vs→Rn e.w e.S (l.map C.toD) vs
 | [],[],_,_=>.anil
 | c::l,v::vs,h,⟨h1,h2⟩=>by
  simp only[List.all_cons,Bool.and_eq_true]at h
  exact .acons _ _ _ _ (RC.toD h.1 h1) (RCs.toD h.2 h2)
theorem RA.toD{e:Env}:∀ {a:AV} {v:Value},a.isD=true→RA e a v→R1 e.w e.S a.toD v
 | .c _,_,h,k=>RC.toD h k
 | .ag _,_,h,⟨_,rfl,k2⟩=>.ag _ _ (RCs.toD h k2)
theorem RCs.ofD{e:Env}:∀ {l:List D} {vs:List Value},Rn e.w e.S l vs→RCs e (l.map C.d) vs
 | [],_,h=>by cases h; trivial
 | _::_,_,h=>by cases h with | acons _ _ _ _ h1 h2=>exact⟨h1,RCs.ofD h2⟩
structure Hp where
 H:Nat→Option (List C)
 T:Nat→Option Nat
 nx:Nat
def Jo(P:Program)(t:TypeId):Nat:=((P.info? t).map (·.size)).getD 0
structure Ctx where
 P:Program
 w0:World
 B:Nat
 S0:Nat→Nat→Prop
 M:Nat→Prop
 nt:Nat
 ds:List Deferred
 root:List (Option Nat×Option Value)
def JjE(Γ:Ctx)(w:World)(ty:TypeId)(sz:Nat)(v:Value)(n:Nat)(xs:List Value):Prop :=
 w.ownsRow 0 ty sz v n xs∧∀ b,v.ownBlock=some b→Γ.B≤b∨Γ.M b
structure MuOk (Γ:Ctx) (h:Hp) (e:Env) (n m:Nat):Prop where
 lt:m<e.w.heap.size
 s:∀ o,JeJ e.w m o→e.S m o
 own:Γ.B≤m∨Γ.M m
 box:∀ k,h.H k≠none→e.ρ k≠some m
 tok:∀ k v,h.T k≠none→e.τ k=some v→¬ Vw v→v.ownBlock≠some m
 one:∀ k,h.H k≠none→e.μ k m→k=n
 ob:∀ o,e.w.heap[m]? = some o→JjF o=true
structure Ext (Γ:Ctx) (h:Hp) (e:Env):Prop where
 mu:∀ n m,h.H n≠none→e.μ n m→MuOk Γ h e n m
 kc:∀ (n:Nat) (row:List C) (j:Nat) (Φ:KP),h.H n=some row→row[j]? = some (C.kc Φ)→∃ (b:Nat) (cs:Array Value) (ty:TypeId) (v:Value),e.ρ n=some b∧e.w.heap[b]? = some (Obj.cells cs ty (0,0))∧cs[j]? = some v∧Φ.p e.w v (e.μ n)
theorem Ext.of{Γ Γ':Ctx}{h h':Hp}{e e':Env}(x:Ext Γ h e)(g:∀ m,(Γ.B≤m∨Γ.M m)→Γ'.B≤m∨Γ'.M m)(sz:e.w.heap.size≤e'.w.heap.size)
  (μ:∀ n m,h'.H n≠none→e'.μ n m→h.H n≠none∧e.μ n m)
  (blk:∀ n m,h.H n≠none→MuOk Γ h e n m→e.μ n m→e'.w.heap[m]? = e.w.heap[m]?∧∀ o,e.S m o→e'.S m o)
  (ρ:∀ n m k,h.H n≠none→MuOk Γ h e n m→e.μ n m→h'.H k≠none→e'.ρ k≠some m)
  (τ:∀ n m k v,h.H n≠none→MuOk Γ h e n m→e.μ n m→h'.T k≠none→e'.τ k=some v→¬ Vw v→v.ownBlock≠some m)
  (kc:∀ (n:Nat) (row:List C) (j:Nat) (Φ:KP),h'.H n=some row→row[j]? = some (C.kc Φ)→∃ row0:List C,h.H n=some row0∧row0[j]? = some (C.kc Φ) ∧
   (∀ (b:Nat) (cs:Array Value) (ty:TypeId) (v:Value),e.ρ n=some b→e.w.heap[b]? = some (Obj.cells cs ty (0,0))→cs[j]? = some v→∃ (cs':Array Value) (ty':TypeId),e'.ρ n=some b∧e'.w.heap[b]? = some (Obj.cells cs' ty' (0,0))∧cs'[j]? = some v)∧∀ m,e.μ n m→e'.μ n m):Ext Γ' h' e':=by
 refine⟨fun n m hn hm=>?_,fun n row j Φ hn hj=>?_⟩
 ·obtain⟨h1,h2⟩:=μ n m hn hm
  have k:=x.mu n m h1 h2
  obtain⟨b1,b2⟩:=blk n m h1 k h2
  exact⟨Nat.lt_of_lt_of_le k.lt sz,fun o hy=>b2 o (k.s o (hy.of b1)),g m k.own,fun i hi=>ρ n m i h1 k h2 hi,fun i v hi=>τ n m i v h1 k h2 hi,fun i hi him=>k.one i (μ i m hi him).1 (μ i m hi him).2,fun o ho=>k.ob o (b1 ▸ ho)⟩
 ·obtain⟨row0,h1,h2,h3,h4⟩:=kc n row j Φ hn hj
  obtain⟨b,cs,ty,v,k1,k2,k3,k4⟩:=x.kc n row0 j Φ h1 h2
  obtain⟨cs',ty',q1,q2,q3⟩:=h3 b cs ty v k1 k2 k3
  have hn0:h.H n≠none:=by rw[h1]; simp
  exact⟨b,cs',ty',v,q1,q2,q3,Φ.fr _ _ _ _ _ k4 (fun m hm=>(blk n m hn0 (x.mu n m hn0 hm) hm).1) h4⟩
structure WInv (Γ:Ctx) (h:Hp) (e:Env):Prop where
 g0:GW Γ.w0 Γ.S0∧∀ q∈Jq9,q.1<Γ.B∧¬ Γ.M q.1
 os:e.w.os=Γ.w0.os
 tape:e.w.tape=Γ.w0.tape
 output:e.w.output=Γ.w0.output
 grown:Γ.w0.heap.size≤e.w.heap.size
 hB:Γ.B≤e.w.heap.size
 old:∀ b,b<Γ.B→¬ Γ.M b→e.w.heap[b]? = Γ.w0.heap[b]?
 sdom:∀ b o,e.S b o→b<e.w.heap.size
 s0:∀ b o,Γ.S0 b o→¬ Γ.M b→e.S b o
 s0B:∀ b o,Γ.S0 b o→b<Γ.B
 keep:Keep Γ.w0 Γ.S0 e.w e.S
 box:∀ n row,h.H n=some row→JpI e n row∨∃ b ob,e.ρ n=some b∧e.w.heap[b]? = some ob∧RO e n row ob∧(∀ o,o<JcE ob→e.S b o)∧(Γ.B≤b∨Γ.M b)
 inj:∀ n m b,h.H n≠none→h.H m≠none→e.ρ n=some b→e.ρ m=some b→n=m
 tok:∀ k ty,h.T k=some ty→k≠0∧∃ v,e.τ k=some v∧(Vw v∨∃ sz n xs,(0<sz∧sz=Jo Γ.P ty)∧JjE Γ e.w ty sz v n xs∧(∀ b o,v.ownBlock=some b→n * sz≤o→(e.w.cell? ⟨b,o,none⟩).isSome→e.S b o) ∧
  (∀ b,v.ownBlock=some b→∀ m,h.H m≠none→e.ρ m≠some b))
 tokinj:∀ k m v u b,h.T k≠none→h.T m≠none→e.τ k=some v→e.τ m=some u→v.ownBlock=some b→u.ownBlock=some b→¬ Vw v→¬ Vw u→k=m
 fresh:∀ n,h.nx≤n→h.H n=none∧h.T n=none∧e.ρ n=none∧e.τ n=none∧∀ m,¬ e.μ n m
 nx0:0<h.nx
 rt:Γ.root.length<h.nx∧∀ i x,Γ.root[i]? = some x→e.ρ (i+1)=x.1∧e.τ (i+1)=x.2
 ext:Ext Γ h e
theorem Jgr{w:World}{b o:Nat}{cs:Array Value}{ty:TypeId}{fz:Nat×Nat}(h:w.heap[b]? = some (.cells cs ty fz))(ho:o<cs.size):w.cell? ⟨b,o,none⟩=some cs[o]:=by
 simp[World.cell?,h,ho]
theorem WInv.gw{Γ:Ctx}{h:Hp}{e:Env}(hw:WInv Γ h e):GW e.w e.S:=by
 intro q hq
 obtain⟨cs,ty,h1,h2,h3,h4⟩:=hw.g0.1 q hq
 obtain⟨g1,g2⟩:=hw.g0.2 q hq
 exact⟨cs,ty,(hw.old q.1 g1 g2).trans h1,h2,h3,fun o ho=>(hw.keep.1 _ _ _ (Jgr h1 ho) (h4 o ho)).2⟩
theorem WInv.rne{Γ:Ctx}{h:Hp}{e:Env}(hw:WInv Γ h e){i:Nat}{x:Option Nat×Option Value}(hx:Γ.root[i]? = some x):i+1≠h.nx:=by
 have h1:=(List.getElem?_eq_some_iff.1 hx).1
 have h2:=hw.rt.1
 omega
theorem WInv.boxAny{Γ:Ctx}{h:Hp}{e:Env}(hw:WInv Γ h e){b:Nat}{n:Nat}(hρ:e.ρ n=some b)(row:List C)(hn:h.H n=some row):
  ∃ ob,e.w.heap[b]? = some ob∧RO e n row ob∧(∀ o,o<JcE ob→e.S b o)∧(Γ.B≤b∨Γ.M b):=by
 rcases hw.box n row hn with hz | ⟨b',ob,h1,h2⟩
 ·rw[hz.1]at hρ; cases hρ
 ·rw[hρ]at h1; simp at h1; subst h1; exact⟨ob,h2⟩
theorem JsC{w:World}{b o:Nat}{x:Value}{ob:Obj}(hb:w.heap[b]? = some ob)(hc:w.cell? ⟨b,o,none⟩=some x):o<JcE ob:=by
 unfold World.cell? at hc
 rw[hb]at hc
 cases ob with
 | cells c t f=>simp at hc; exact(Array.getElem?_eq_some_iff.1 hc).1
 | _=>simp at hc
theorem WInv.ownS{Γ:Ctx}{h:Hp}{e:Env}(hw:WInv Γ h e){b n o:Nat}{x:Value}(hρ:e.ρ n=some b)(hn:h.H n≠none)(hc:e.w.cell? ⟨b,o,none⟩=some x):e.S b o:=by
 obtain⟨row,hr⟩:=Option.ne_none_iff_exists'.1 hn
 obtain⟨ob,h1,_,h3,_⟩:=hw.boxAny hρ row hr
 exact h3 o (JsC h1 hc)
theorem WInv.ownS'{Γ:Ctx}{h:Hp}{e:Env}(hw:WInv Γ h e){b n o:Nat}(hρ:e.ρ n=some b)(hn:h.H n≠none)(hc:JeJ e.w b o):e.S b o:=by
 rcases hc with⟨x,hc⟩|⟨rfl,es,k,hc⟩
 ·exact hw.ownS hρ hn hc
 obtain⟨row,hr⟩:=Option.ne_none_iff_exists'.1 hn
 obtain⟨ob,h1,_,h3,_⟩:=hw.boxAny hρ row hr
 rw[hc]at h1
 cases h1
 exact h3 0 (by simp[JcE])
theorem WInv.boxAt{Γ:Ctx}{h:Hp}{e:Env}(hw:WInv Γ h e){b:Nat}{n:Nat}(hρ:e.ρ n=some b)(row:List C)(hn:h.H n=some row)(hb:JcF row=true):
  ∃ b cs ty,e.ρ n=some b∧e.w.heap[b]? = some (.cells cs ty (0,0))∧RB e n row cs.toList∧(∀ o,o<cs.size→e.S b o)∧(Γ.B≤b∨Γ.M b):=by
 obtain⟨ob,h1,h2,h3,h4⟩:=hw.boxAny hρ row hn
 obtain⟨cs,ty,rfl,h5⟩:=h2.plain hb
 exact⟨b,cs,ty,hρ,h1,h5,h3,h4⟩
theorem Jg3:∀ {row:List C},row.all C.isD=true→rowP row=true
 | [],_=>rfl
 | c::_,h=>by
  simp only[List.all_cons,Bool.and_eq_true]at h
  cases c <;> simp_all [rowP,C.isArr,C.isD]
inductive GOut where
 | ret (val:AV) (bs:List (List C)) (ts:List TypeId)
 | pan (v:Value) (bs:List (List C)) (ts:List TypeId)
structure GI where
 args:List AV
 bs:List (List C)
 ts:List TypeId
 out:GOut
structure DI where
 args:List AV
 bs:List (List C)
 ts:List TypeId
 u:Option Value
 bs':List (List C)
 ts':List TypeId
 u':Option Value
def ofV:Value→C
 | .slice none 0 0=>.sl 0 [] 0
 | v=>.d (.v v)
theorem RC.ofV(e:Env)(v:Value):RC e (ofV v) v:=by
 unfold Proofs.Ytaofbminodhcnaa.ofV
 split
 ·exact⟨.slnil 0 _,.inl ⟨_,_,rfl⟩⟩
 ·exact .v _
theorem RCs.ofV(e:Env):∀ (vs:List Value),RCs e (vs.map ofV) vs
 | []=>trivial
 | v::vs=>⟨RC.ofV e v,RCs.ofV e vs⟩
def JfA:Value→AV
 | .slice none 0 0=>.c (.sl 0 [] 0)
 | .agg a=>.ag (a.toList.map ofV)
 | v=>.c (.d (.v v))
def evA(σ:Nat→AV):Operand→AV
 | .tmp t=>σ t
 | .const v=>JfA v
 | .global g=>.c (.d (.v (.pointer (some ⟨g,0,none⟩))))
 | .func f=>.c (.d (.v (.func (.func f) #[] #[])))
def DS:Nat:=1000000
def RDl(e:Env):List (Nat×List C)→List Deferred→Prop
 | [],[]=>True
 | (f,cs)::l,d::m=>(∃ cap vs,d.target=.fn (.func f) cap∧d.args++cap=⟨vs⟩∧RCs e cs vs)∧RDl e l m
 | _,_=>False
def dfL:AV→List (Nat×List C)
 | .df l=>l
 | _=>[]
theorem RDl.mono{e e':Env}(h:e.le e'):∀ {l:List (Nat×List C)} {m:List Deferred},RDl e l m→RDl e' l m
 | [],[],_=>trivial
 | (_,_)::_,_::_,⟨⟨cap,vs,h1,h2,h3⟩,h4⟩=>⟨⟨cap,vs,h1,h2,RCs.mono h h3⟩,RDl.mono h h4⟩
def RDf(e:Env)(ds:List Deferred)(a:AV)(l:List Deferred):Prop:=∃ r,l=r++ds∧RDl e (dfL a) r
theorem RDf.mono{e e':Env}(h:e.le e'){ds:List Deferred}{a:AV}{l:List Deferred}(k:RDf e ds a l):RDf e' ds a l :=
 let ⟨r,h1,h2⟩:=k; ⟨r,h1,h2.mono h⟩
def Jz(nt:Nat)(ds:List Deferred)(σ:Nat→AV)(a:Act)(e:Env):Prop:=a.tmps.size=nt∧(RDf e ds (σ DS) a.defers∧nt≤DS)∧∀ i,i<nt→RA e (σ i) (a.tmps.getD i undef)
def upd{α:Type}(σ:Nat→α)(d:Nat)(x:α):Nat→α:=fun i=>if i=d then x else σ i
@[simp] theorem upd_same {α:Type} (σ:Nat→α) (d:Nat) (x:α):upd σ d x d=x:=by simp[upd]
theorem JbW{α:Type}(σ:Nat→α)(d i:Nat)(x:α)(h:i≠d):upd σ d x i=σ i:=by simp[upd,h]
def putA(σ:Nat→AV):Option Tmp→AV→(Nat→AV)
 | some d,x=>upd σ d x
 | none,_=>σ
theorem Jz.mono{nt:Nat}{ds:List Deferred}{σ:Nat→AV}{a:Act}{e e':Env}(h:Jz nt ds σ a e)(hl:e.le e'):Jz nt ds σ a e' :=
 ⟨h.1,⟨h.2.1.1.mono hl,h.2.1.2⟩,fun i hi=>RA.mono hl (h.2.2 i hi)⟩
theorem Jz.put{nt:Nat}{ds:List Deferred}{σ:Nat→AV}{a:Act}{e:Env}(h:Jz nt ds σ a e)(dst:Option Tmp)(hds:dst≠some DS){x:AV}{v:Value}(hv:RA e x v):
  Jz nt ds (putA σ dst x) (a.put dst v) e:=by
 cases dst with
 | none=>exact h
 | some d =>
  refine⟨by simpa [Act.put] using h.1,⟨by
   have hne:DS≠d:=fun he=>hds (by rw[he])
   simpa [Act.put,putA,upd,hne] using h.2.1.1,h.2.1.2⟩,fun i hi=>?_⟩
  have:=h.2.2 i hi
  have hs:=h.1
  simp only[Act.put,putA,upd]
  by_cases hid:i=d
  ·subst hid; simpa [Array.getD_eq_getD_getElem?,hs,hi] using hv
  ·simp only[hid,if_false]
   simpa [Array.getD_eq_getD_getElem?,Array.getElem?_setIfInBounds,Ne.symm hid] using this
theorem Jq7{nt:Nat}{ds:List Deferred}{σ:Nat→AV}{a:Act}{e:Env}(h:Jz nt ds σ a e)(x:Operand)(hx:∀ t,x=.tmp t→t<nt):RA e (evA σ x) (a.eval x):=by
 cases x with
 | tmp t=>exact h.2.2 t (hx t rfl)
 | const v =>
  simp only[evA,Act.eval,JfA]
  split
  ·exact⟨.slnil 0 _,.inl ⟨_,_,rfl⟩⟩
  ·exact⟨_,rfl,RCs.ofV e _⟩
  ·exact .v _
 | global g=>exact .v _
 | func f=>exact .v _
def Jc4(o:Oper)(σ:Nat→AV)(a:Act)(e:Env):Prop:=∀ x,x∈o.op.operands→RA e (evA σ x) (a.eval x)
def VR(Γ:Ctx)(o:Oper)(σ:Nat→AV)(h:Hp)(av:AV)(h':Hp):Prop :=
 ∀ a e,Jc4 o σ a e→WInv Γ h e→∀ (K:Act→World→Prop) (Q:Exit→Act→World→Prop),
  (∀ v e',WInv Γ h' e'→e.le e'→RA e' av v→K (a.put o.dst v) e'.w)→o.wp Γ.P a e.w K Q
end Go.Proofs.Ytaofbminodhcnaa
namespace Go.Proofs.Ytaofbminodhcnaa
open Go.RowKit
def bl(s:ByteArray):List UInt8:=s.data.toList
@[simp] theorem bl_mk (l:List UInt8):bl ⟨l.toArray⟩=l:=rfl
theorem Jxt(s:ByteArray):str (bl s)=.string s:=rfl
theorem Jew(s:ByteArray):s.size=(bl s).length:=(Array.length_toList (xs:=s.data)).symm
def eqI(a b:Int):Bool:=decide (a=b)
def ltI(a b:Int):Bool:=decide (a<b)
def leI(a b:Int):Bool:=decide (a≤b)
def eqS(a b:List UInt8):Bool:=decide (a=b)
def eqB(a b:Bool):Bool:=decide (a=b)
theorem Jpf(a b:Int):(eqI a b=true)=(a=b):=by simp[eqI]
theorem Jnf(a b:Int):(eqI a b=false)=¬ (a=b):=by simp[eqI]
theorem JoU(a b:Int):(ltI a b=true)=(a<b):=by simp[ltI]
theorem Jma(a b:Int):(ltI a b=false)=¬ (a<b):=by simp[ltI]
theorem Jo8(a b:Int):(leI a b=true)=(a≤b):=by simp[leI]
theorem Jmv(a b:Int):(leI a b=false)=¬ (a≤b):=by simp[leI]
theorem Jkh(a b:List UInt8):(eqS a b=true)=(a=b):=by simp[eqS]
theorem JgP(a b:List UInt8):(eqS a b=false)=¬ (a=b):=by simp[eqS]
theorem Jqh(a b:Bool):(eqB a b=true)=(a=b):=by simp[eqB]
theorem JmP(a b:Bool):(eqB a b=false)=¬ (a=b):=by simp[eqB]
theorem ltL0:ltI 0 2=true:=by decide
theorem ltL1:ltI 1 2=true:=by decide
theorem ltL2:ltI 2 2=false:=by decide
theorem eqL0:eqI 0 0=true:=by decide
theorem eqL1:eqI 1 1=true:=by decide
theorem eqL2:eqI 0 1=false:=by decide
theorem eqL3:eqI 1 0=false:=by decide
theorem JlC:IntKind.i64.signed=true:=rfl
theorem wrL1:IntKind.i64.wrap 1=1:=by decide
theorem wrL2:IntKind.i64.wrap 2=2:=by decide
theorem wrL3:IntKind.i64.wrap 3=3:=by decide
def Jh3(P:Program)(t:TypeId):Bool:=match P.underlying t with | some (.interface ms)=>ms.isEmpty | _=>false
def abin(P:Program)(op:BinOp)(t:TypeId):Value→Value→Prop×Value
 | .int k a,.int k' b =>
  match op with
  | .add=>(k=k',.int k (k.wrap (a+b)))
  | .sub=>(k=k',.int k (k.wrap (a-b)))
  | .mul=>(k=k',.int k (k.wrap (a * b)))
  | .eql=>(k=k',.bool (eqI a b))
  | .neq=>(k=k',.bool (!eqI a b))
  | .lss=>(k=k',.bool (ltI a b))
  | .leq=>(k=k',.bool (leI a b))
  | .gtr=>(k=k',.bool (ltI b a))
  | .geq=>(k=k',.bool (leI b a))
  | .quo=>(k=k'∧b≠0,.int k (k.wrap (a.tdiv b)))
  | .rem=>(k=k'∧b≠0,.int k (a.tmod b))
  | .shr=>(0≤b,.int k (a.fdiv (2 ^ (min b.toNat k.bits))))
  | .shl=>(0≤b,.int k (k.wrap (a * 2 ^ (min b.toNat k.bits))))
  | .and=>(k=k',.int k (k.wrap ((BitVec.ofInt k.bits a) &&& (BitVec.ofInt k.bits b)).toNat))
  | .or=>(k=k',.int k (k.wrap ((BitVec.ofInt k.bits a) ||| (BitVec.ofInt k.bits b)).toNat))
  | .xor=>(k=k',.int k (k.wrap ((BitVec.ofInt k.bits a) ^^^ (BitVec.ofInt k.bits b)).toNat))
  | _=>(False,undef)
 | .string x,.string y =>
  match op with
  | .add=>((bl x).length+(bl y).length≤9223372036854775807,str (bl x++bl y))
  | .eql=>(True,.bool (eqS (bl x) (bl y)))
  | .neq=>(True,.bool (!eqS (bl x) (bl y)))
  | .lss=>(True,.bool (Op.bytesLess (bl x) (bl y)))
  | .leq=>(True,.bool (Op.bytesLess (bl x) (bl y) || eqS (bl x) (bl y)))
  | .gtr=>(True,.bool (!(Op.bytesLess (bl x) (bl y) || eqS (bl x) (bl y))))
  | .geq=>(True,.bool (!Op.bytesLess (bl x) (bl y)))
  | _=>(False,undef)
 | .bool a,.bool b =>
  match op with
  | .eql=>(P.underlying t=some .bool,.bool (eqB a b))
  | .neq=>(P.underlying t=some .bool,.bool (!eqB a b))
  | _=>(False,undef)
 | .iface _ _,.nilIface =>
  match op with
  | .eql=>(Jh3 P t=true,.bool false)
  | .neq=>(Jh3 P t=true,.bool true)
  | _=>(False,undef)
 | .nilIface,.nilIface =>
  match op with
  | .eql=>(Jh3 P t=true,.bool true)
  | .neq=>(Jh3 P t=true,.bool false)
  | _=>(False,undef)
 | _,_=>(False,undef)
theorem JdT(P:Program)(op:BinOp)(t:TypeId)(x y:Operand)(a b:Value)(w:World)(h1:∀ c,a≠.agg c)(h2:a≠.nilIface):
  (eqGuard op t x y a b).run P w=.ok () w:=by
 unfold eqGuard
 cases op <;> simp[Sem.run_bind] <;> (cases a <;> first | (exfalso; exact h1 _ rfl) | (exfalso; exact h2 rfl) | simp[Sem.run_pure])
theorem Bool.dec_eq(a b:Bool):(a == b)=decide (a=b):=by cases a <;> cases b <;> rfl
theorem Jty(P:Program)(op:BinOp)(t:TypeId)(a b:Bool)(w:World)(h:(abin P op t (.bool a) (.bool b)).1):
  (binOp op t (.bool a) (.bool b)).run P w=.ok (abin P op t (.bool a) (.bool b)).2 w:=by
 cases op <;> simp only[abin]at h ⊢ <;>
  first | (exact h.elim) | (simp only[Go.binOp,Sem.run_bind,run_equal_bool _ _ _ _ h,Result.andThen_ok,Sem.run_pure,Bool.dec_eq,eqB])
theorem Jvg(P:Program)(op:BinOp)(t:TypeId)(k k':IntKind)(a b:Int)(w:World)(h:(abin P op t (.int k a) (.int k' b)).1):
  (binOp op t (.int k a) (.int k' b)).run P w=.ok (abin P op t (.int k a) (.int k' b)).2 w:=by
 cases op <;> simp only[abin]at h ⊢ <;> (try exact h.elim) <;> (try obtain⟨h,h2⟩:=h) <;> (try subst h) <;>
  simp only[Go.binOp,ne_eq,not_true_eq_false,if_false,eqI,ltI,leI,Op.intArith,Op.intCmp,Op.intBits,Op.intDiv,Op.shift,Sem.run_pure]
 all_goals first
  | rfl
  | (rw[if_neg h2]; rfl)
  | (rw[if_neg (by omega)]; rfl)
  | (by_cases hab:a=b <;> simp[hab])
theorem JuW(P:Program)(op:BinOp)(t:TypeId)(a b:ByteArray)(w:World)(h:(abin P op t (.string a) (.string b)).1):
  (binOp op t (.string a) (.string b)).run P w=.ok (abin P op t (.string a) (.string b)).2 w:=by
 have hl:(bl a == bl b)=decide (bl a=bl b):=by by_cases hab:bl a=bl b <;> simp[hab]
 have ha:a.toList=bl a:=ByteArray.toList_eq a
 have hb:b.toList=bl b:=ByteArray.toList_eq b
 cases op <;> simp only[abin]at h ⊢ <;> (try exact h.elim) <;> simp only[Go.binOp,Op.stringOp,ha,hb,hl,eqS,Sem.run_pure]
 ·have hm:IntKind.i64.max=9223372036854775807:=rfl
  rw[Jew,Jew,hm,if_neg (by omega),Sem.run_pure]
  have:a++b=⟨(bl a++bl b).toArray⟩:=by
   apply ByteArray.ext
   simp[bl,ByteArray.data_append]
  rw[this]
theorem Js7{P:Program}{t:TypeId}(h:Jh3 P t=true):∃ ms,P.underlying t=some (.interface ms)∧ms.isEmpty=true:=by
 unfold Jh3 at h
 split at h
 ·exact⟨_,by assumption,h⟩
 ·cases h
theorem JuP(P:Program)(op:BinOp)(t:TypeId)(x y:Operand)(a:Value)(w:World)(h:(abin P op t a .nilIface).1):
  (do eqGuard op t x y a .nilIface; binOp op t a .nilIface).run P w=.ok (abin P op t a .nilIface).2 w:=by
 have he:∀ ms,P.underlying t=some (.interface ms)→∀ u v,(Op.equal t (.iface u v) .nilIface).run P w=.ok false w:=by
  intro ms hu u v
  show(Op.equalIn (9999+1) t _ _).run P w=_
  unfold Op.equalIn
  simp only[Sem.run_bind,run_underlying hu,Result.andThen_ok]; rfl
 have hn:∀ ms,P.underlying t=some (.interface ms)→(Op.equal t .nilIface .nilIface).run P w=.ok true w:=by
  intro ms hu
  show(Op.equalIn (9999+1) t _ _).run P w=_
  unfold Op.equalIn
  simp only[Sem.run_bind,run_underlying hu,Result.andThen_ok]; rfl
 have hg:∀ ms,P.underlying t=some (.interface ms)→ms.isEmpty=true→(Op.eqGuardIn Op.maxDepth t .nilIface .nilIface).run P w=.ok false w:=by
  intro ms hu hm
  show(Op.eqGuardIn (9999+1) t _ _).run P w=_
  unfold Op.eqGuardIn
  simp only[Sem.run_bind,run_underlying hu,Result.andThen_ok]; simp[hm]
 cases a <;> try (exact h.elim)
 all_goals cases op <;> try (exact h.elim)
 all_goals obtain⟨ms,hu,hm⟩:=Js7 h
 all_goals rw[Sem.run_bind]
 ·rw[JdT _ _ _ _ _ _ _ _ (by simp) (by simp),Result.andThen_ok]; simp only[Go.binOp,Sem.run_bind,he ms hu]; rfl
 ·rw[JdT _ _ _ _ _ _ _ _ (by simp) (by simp),Result.andThen_ok]; simp only[Go.binOp,Sem.run_bind,he ms hu]; rfl
 ·have:(eqGuard .eql t x y .nilIface .nilIface).run P w=.ok () w:=by
   unfold eqGuard
   simp[Sem.run_bind]
   intros
   rw[hg ms hu hm]; rfl
  rw[this,Result.andThen_ok]; simp only[Go.binOp,Sem.run_bind,hn ms hu]; rfl
 ·have:(eqGuard .neq t x y .nilIface .nilIface).run P w=.ok () w:=by
   unfold eqGuard
   simp[Sem.run_bind]
   intros
   rw[hg ms hu hm]; rfl
  rw[this,Result.andThen_ok]; simp only[Go.binOp,Sem.run_bind,hn ms hu]; rfl
theorem Jp4(P:Program)(op:BinOp)(t:TypeId)(x y:Operand)(a b:Value)(w:World)(h:(abin P op t a b).1):
  (do eqGuard op t x y a b; binOp op t a b).run P w=.ok (abin P op t a b).2 w:=by
 by_cases hb:b=.nilIface
 ·subst hb; exact JuP P op t x y a w h
 cases a <;> try (exact h.elim)
 all_goals cases b <;> try (first | exact h.elim | exact absurd rfl hb)
 all_goals rw[Sem.run_bind,JdT _ _ _ _ _ _ _ _ (by simp) (by simp),Result.andThen_ok]
 ·exact Jty _ _ _ _ _ _ h
 ·exact Jvg _ _ _ _ _ _ _ _ h
 ·exact JuW _ _ _ _ _ _ h
def aun(op:UnOp):Value→Prop×Value
 | .bool b=>match op with
  | .not=>(True,.bool (!b))
  | _=>(False,undef)
 | .int k n=>match op with
  | .neg=>(True,.int k (k.wrap (0-n)))
  | .xor=>(k.signed=true,.int k (k.wrap ((BitVec.ofInt k.bits (-1)) ^^^ (BitVec.ofInt k.bits n)).toNat))
  | _=>(False,undef)
 | _=>(False,undef)
theorem Jxo(P:Program)(op:UnOp)(a:Value)(w:World)(h:(aun op a).1):(Op.unary op a).run P w=.ok (aun op a).2 w:=by
 cases a <;> try (exact h.elim)
 all_goals cases op <;> first | (exact h.elim) | rfl | (have h:_=true:=h; simp only[Op.unary,aun,h,if_true]; rfl)
def tAgg(P:Program)(t:TypeId):Bool:=match P.underlying t with | some (.struct _) | some (.array _ _)=>true | _=>false
def tOff(P:Program)(s:TypeId)(f:Nat):Nat:=match P.underlying s with | some (.struct fs)=>((fs[f]?).map (·.offset)).getD 0 | _=>0
def tFld(P:Program)(s:TypeId)(f:Nat):TypeId:=match P.underlying s with | some (.struct fs)=>((fs[f]?).map (·.type)).getD 0 | _=>0
def Ju(P:Program)(t:TypeId):TypeId:=match P.underlying t with | some (.slice e)=>e | _=>0
def JI(P:Program)(s:TypeId)(f:Nat):Bool:=match P.underlying s with | some (.struct fs)=>(fs[f]?).isSome && Jo P (((fs[f]?).map (·.type)).getD 0) != 0 && (P.underlying (((fs[f]?).map (·.type)).getD 0)).isSome && (P.info? (((fs[f]?).map (·.type)).getD 0)).isSome | _=>false
def JU(P:Program)(t:TypeId):Bool:=match P.underlying t with | some (.slice e)=>(P.info? e).isSome && (P.underlying e).isSome | _=>false
def JQ(P:Program)(t:TypeId):Bool:=(P.info? t).isSome && (P.underlying t).isSome
theorem J6(P:Program)(t:TypeId)(w:World)(h:JQ P t=true):(sizeOf t).run P w=.ok (Jo P t) w:=by
 simp only[JQ,Bool.and_eq_true,Option.isSome_iff_exists]at h
 obtain⟨⟨i,hi⟩,_⟩:=h
 simp[sizeOf,typeInfo,Jo,hi]
theorem JfM(P:Program)(t:TypeId)(w:World)(h:JQ P t=true):(isAgg t).run P w=.ok (tAgg P t) w:=by
 simp only[JQ,Bool.and_eq_true,Option.isSome_iff_exists]at h
 obtain⟨_,⟨d,hd⟩⟩:=h
 cases d <;> simp[isAgg,underlying,tAgg,hd]
def slD:AV→Option (Nat×List D)
 | .c (.d (.sl sz l))=>some (sz,l)
 | .c (.sl sz l _)=>some (sz,l)
 | .c (.ex _ (.sl sz l))=>some (sz,l)
 | .c (.fs sz l)=>some (sz,l)
 | _=>none
theorem RA.slD{e:Env}{x:AV}{v:Value}{sz:Nat}{l:List D}(h:RA e x v)(hs:slD x=some (sz,l)):R1 e.w e.S (.sl sz l) v:=by
 unfold Proofs.Ytaofbminodhcnaa.slD at hs
 split at hs
 ·simp at hs; obtain⟨rfl,rfl⟩:=hs; exact h
 ·simp at hs; obtain⟨rfl,rfl⟩:=hs; exact h.1
 ·simp at hs; obtain⟨rfl,rfl⟩:=hs; exact h.2
 ·simp at hs; obtain⟨rfl,rfl⟩:=hs; exact h.1
 ·simp at hs
theorem R1.slInv{w:World}{S:Nat→Nat→Prop}{sz:Nat}{l:List D}{v:Value}(h:R1 w S (.sl sz l) v):
  (l=[]∧∃ o,v=.slice o 0 0)∨∃ vs b o cap,v=.slice (some ⟨b,o,none⟩) l.length cap∧Rn w S (l.flatMap D.cells) vs ∧
   (∀ i x,vs[i]? = some x→w.cell? ⟨b,o+i,none⟩=some x∧¬ S b (o+i))∧(∀ d∈l,d.cells.length=sz)∧l.length≤cap:=by
 cases h with
 | slnil _ o=>exact .inl ⟨rfl,o,rfl⟩
 | sl _ _ vs b o cap h1 h2 h3 h4=>exact .inr ⟨vs,b,o,cap,rfl,h1,h2,h3,h4⟩
theorem R1.vInv{w:World}{S:Nat→Nat→Prop}{x v:Value}(h:R1 w S (.v x) v):v=x:=by cases h; rfl
theorem R1.tuInv{w:World}{S:Nat→Nat→Prop}{l:List D}{v:Value}(h:R1 w S (.tu l) v):∃ vs,v=.tuple ⟨vs⟩∧Rn w S l vs:=by
 cases h with | tu _ vs h=>exact⟨vs,rfl,h⟩
theorem R1.agInv{w:World}{S:Nat→Nat→Prop}{l:List D}{v:Value}(h:R1 w S (.ag l) v):∃ vs,v=.agg ⟨vs⟩∧Rn w S l vs:=by
 cases h with | ag _ vs h=>exact⟨vs,rfl,h⟩
theorem VR.of_run{Γ:Ctx}{o:Oper}{σ:Nat→AV}{h:Hp}{av:AV}
  (hr:∀ a e,Jc4 o σ a e→WInv Γ h e→∃ v,(execOp a.eval o).run Γ.P e.w=.ok (.value v) e.w∧RA e av v):VR Γ o σ h av h:=by
 intro a e ho hw K Q hk
 obtain⟨v,h1,h2⟩:=hr a e ho hw
 unfold Oper.wp
 rw[h1]
 exact hk v e hw (Env.le.refl e) h2
structure AR where
 pre:Prop
 val:AV
 h:Hp
def AR.bad(h:Hp):AR:=⟨False,.c (.d (.v undef)),h⟩
def Jf6(σ:Nat→AV)(h:Hp)(c x y:Operand):AR :=
 match evA σ c with
 | .c (.d (.v (.bool p)))=>⟨True,if p then evA σ x else evA σ y,h⟩
 | _=>.bad h
theorem JvW{Γ:Ctx}{σ:Nat→AV}{h:Hp}(o:Oper)(c x y:Operand)(ho:o.op=.pick c x y)(hp:(Jf6 σ h c x y).pre):
  VR Γ o σ h (Jf6 σ h c x y).val (Jf6 σ h c x y).h:=by
 unfold Jf6 at *
 split at hp
 ·rename_i p hc
  refine VR.of_run fun a e hop hw=>?_
  have h1:=hop c (by simp[ho,Op.operands])
  have h2:=hop x (by simp[ho,Op.operands])
  have h3:=hop y (by simp[ho,Op.operands])
  rw[hc]at h1
  have h1:=R1.vInv h1
  refine⟨if p then a.eval x else a.eval y,?_,?_⟩
  ·simp[execOp,ho,h1,asBool]
  ·cases p <;> simpa using by assumption
 ·exact hp.elim
theorem Jr7{Γ:Ctx}{σ:Nat→AV}{h:Hp}(o:Oper)(x:Operand)(ho:o.op=.move x∨o.op=.assign x):VR Γ o σ h (evA σ x) h:=by
 refine VR.of_run fun a e hop hw=>⟨a.eval x,?_,hop x ?_⟩
 ·rcases ho with ho | ho <;> simp[execOp,ho]
 ·rcases ho with ho | ho <;> simp[ho,Op.operands]
def eqV:Value→Value→Prop×Bool
 | .int k a,.int k' b=>(k=k',eqI a b)
 | .string a,.string b=>(True,eqS (bl a) (bl b))
 | .bool a,.bool b=>(True,eqB a b)
 | _,_=>(False,false)
def eqVs:List Value→List Value→Prop×Bool
 | [a],[b]=>eqV a b
 | a::l,b::m=>((eqV a b).1∧(eqVs l m).1,(eqV a b).2 && (eqVs l m).2)
 | _,_=>(False,false)
def Jsg(P:Program)(t:TypeId):Bool:=match P.underlying t with | some (.int _) | some .string | some .bool=>(P.info? t).isSome | _=>false
def Jjw(P:Program):Nat→List Field→Bool
 | _,[]=>true
 | n,f::fs=>f.name != "_" && f.offset == n && Jsg P f.type && Jjw P (n+1) fs
def JjA(P:Program)(t:TypeId):Bool:=match P.underlying t with | some (.struct fs)=>!fs.toList.isEmpty && Jjw P 0 fs.toList && !P.stoodInHeld t && !P.eqGuardType P.depth t && (P.info? t).isSome | _=>false
def okV(P:Program)(t:TypeId)(a:Value):Prop:=match a,P.underlying t with | .int _ _,some (.int _)=>True | .string _,some .string=>True | .bool _,some .bool=>True | _,_=>False
def fitV:Value→TypeDesc→Prop
 | .int _ _,.int _=>True
 | .string _,.string=>True
 | .bool _,.bool=>True
 | _,_=>False
theorem JxV{P:Program}{t:TypeId}{a:Value}(h:okV P t a):∃ D,P.underlying t=some D∧fitV a D:=by
 unfold okV at h
 cases hu:P.underlying t with
 | none=>rw[hu]at h; cases a <;> exact h.elim
 | some D=>rw[hu]at h; refine⟨D,rfl,?_⟩; cases a <;> cases D <;> first | trivial | exact h.elim
theorem Jk4{P:Program}(d:Nat)(t:TypeId)(a b:Value)(w:World)(h:(eqV a b).1)(hok:okV P t a):
  (Op.equalIn (d+1) t a b).run P w=.ok (eqV a b).2 w:=by
 obtain⟨D,hD,hm⟩:=JxV hok
 clear hok
 cases a <;> cases b <;> simp only[eqV]at h ⊢ <;> try (exact h.elim)
 ·cases D <;> try (exact hm.elim)
  simp only[Op.equalIn,Sem.run_bind,run_underlying hD,Result.andThen_ok,Sem.run_pure,Bool.dec_eq,eqB]
 ·cases D <;> try (exact hm.elim)
  subst h
  simp only[Op.equalIn,Sem.run_bind,run_underlying hD,Result.andThen_ok,Sem.run_pure,if_true,eqI]
  congr 1
 ·rename_i x y
  cases D <;> try (exact hm.elim)
  have ha:x.toList=bl x:=ByteArray.toList_eq x
  have hb:y.toList=bl y:=ByteArray.toList_eq y
  have hl:(bl x == bl y)=decide (bl x=bl y):=by by_cases hab:bl x=bl y <;> simp[hab]
  simp only[Op.equalIn,Sem.run_bind,run_underlying hD,Result.andThen_ok,Sem.run_pure,eqS,beq_toListBytes,ha,hb,hl]
def okVs(P:Program):List Field→List Value→Prop
 | [],[]=>True
 | f::fs,a::l=>okV P f.type a∧okVs P fs l
 | _,_=>False
def JcI:Value→Nat
 | .int _ _=>1
 | .string _=>2
 | .bool _=>3
 | _=>0
def JlA:Option TypeDesc→Nat
 | some (.int _)=>1
 | some .string=>2
 | some .bool=>3
 | _=>4
theorem JxI{P:Program}{t:TypeId}{a:Value}(h:JcI a=JlA (P.underlying t)):okV P t a:=by
 unfold okV
 cases hu:P.underlying t with
 | none=>rw[hu]at h; cases a <;> simp[JcI,JlA]at h
 | some D=>rw[hu]at h; cases a <;> cases D <;> simp_all [JcI,JlA]
theorem Jq6{P:Program}:∀ {fs:List Field} {as:List Value},as.map JcI=fs.map (fun f=>JlA (P.underlying f.type))→okVs P fs as
 | [],[],_=>trivial
 | [],_::_,h=>by simp at h
 | _::_,[],h=>by simp at h
 | f::fs,a::as,h=>by
  simp only[List.map_cons,List.cons.injEq]at h
  exact⟨JxI h.1,Jq6 h.2⟩
theorem Jia{P:Program}{t:TypeId}{xs:Array Value}{n:Nat}{v:Value}(w:World)(ht:Jsg P t=true)(hx:xs[n]? = some v):(part t xs n).run P w=.ok v w:=by
 unfold Jsg at ht
 cases hu:P.underlying t with
 | none=>rw[hu]at ht; simp at ht
 | some D =>
  rw[hu]at ht
  have hi:(isAgg t).run P w=.ok false w:=by
   cases D <;> first | (simp at ht; done) | simp[isAgg,underlying,hu]
  unfold part
  simp only[Sem.run_bind,hi,Result.andThen_ok,Bool.false_eq_true,if_false,hx,Sem.run_pure]
theorem JfY{P:Program}(d:Nat)(xs ys:Array Value)(w:World):∀ (fs:List Field) (n:Nat) (as bs:List Value),Jjw P n fs=true→fs≠[]→(∀ i:Nat,i<as.length→xs[n+i]? = as[i]?)→(∀ i:Nat,i<bs.length→ys[n+i]? = bs[i]?) →
  okVs P fs as→(eqVs as bs).1→(Op.eqFields (d+1) xs ys fs).run P w=.ok (eqVs as bs).2 w
 | [],_,_,_,_,h,_,_,_,_=>absurd rfl h
 | f::fs,n,as,bs,hf,_,hx,hy,hok,he=>by
  simp only[Jjw,Bool.and_eq_true,bne_iff_ne,ne_eq,beq_iff_eq]at hf
  obtain⟨⟨⟨h1,h2⟩,h3⟩,h4⟩:=hf
  match as,bs,hok,he with
  | _::_,[],_,he=>simp[eqVs]at he
  | a::as,b::bs,hok,he =>
   have e1:=Jia (P:=P) w h3 (xs:=xs) (n:=n) (v:=a) (by simpa using hx 0 (by simp))
   have e2:=Jia (P:=P) w h3 (xs:=ys) (n:=n) (v:=b) (by simpa using hy 0 (by simp))
   have hab:(eqV a b).1:=by
    cases as <;> cases bs <;> simp only[eqVs]at he
    ·exact he
    ·exact he.1
    ·exact he.1
    ·exact he.1
   have e3:=Jk4 (P:=P) d f.type a b w hab hok.1
   simp only[Op.eqFields,h1,ne_eq,not_false_eq_true,if_true,Sem.run_bind,h2,e1,e2,e3,Result.andThen_ok]
   cases hfs:fs with
   | nil =>
    subst hfs
    have hasn:as=[]:=by cases as with | nil=>rfl | cons _ _=>exact hok.2.elim
    subst hasn
    cases bs with
    | nil=>simp only[eqVs]; cases (eqV a b).2 <;> simp[Op.eqFields]
    | cons _ _=>simp[eqVs]at he
   | cons g gs =>
    rw[← hfs]
    have hne:fs≠[]:=by rw[hfs]; simp
    cases as with
    | nil=>rw[hfs]at hok; exact hok.2.elim
    | cons a' as' =>
     cases bs with
     | nil=>simp[eqVs]at he
     | cons b' bs' =>
      have ih:=JfY d xs ys w fs (n+1) (a'::as') (b'::bs') h4 hne (fun i hi=>by have:=hx (i+1) (by simp at hi ⊢; omega); rw[show n+(i+1)=n+1+i by omega]at this; simpa using this) (fun i hi=>by have:=hy (i+1) (by simp at hi ⊢; omega); rw[show n+(i+1)=n+1+i by omega]at this; simpa using this) hok.2 (by
       have:=he
       simp only[eqVs]at this
       exact this.2)
      have hv:(eqVs (a::a'::as') (b::b'::bs')).2=((eqV a b).2 && (eqVs (a'::as') (b'::bs')).2):=by
       simp[eqVs]
      rw[hv]
      cases (eqV a b).2
      ·simp
      ·simpa using ih
def exV:C→Option Value
 | .d (.v x)=>some x
 | _=>none
def exVs:List C→Option (List Value)
 | []=>some []
 | c::l=>match exV c,exVs l with | some v,some vs=>some (v::vs) | _,_=>none
def agV:AV→Option (List Value)
 | .ag l=>exVs l
 | .c (.d (.ag l))=>exVs (l.map .d)
 | _=>none
theorem Jkl{e:Env}:∀ {l:List C} {vs us:List Value},exVs l=some us→RCs e l vs→vs=us
 | [],[],us,h,_=>by simp[exVs]at h; exact h.symm
 | c::l,v::vs,us,h,⟨h1,h2⟩=>by
  simp only[exVs]at h
  split at h
  ·rename_i x xs hx hxs
   simp at h; subst h
   have:=Jkl hxs h2
   subst this
   unfold exV at hx
   split at hx
   ·simp at hx; subst hx
    have:=R1.vInv h1
    subst this; rfl
   ·cases hx
  ·cases h
theorem Jhp{e:Env}{a:AV}{v:Value}{us:List Value}(h:agV a=some us)(k:RA e a v):v=.agg ⟨us⟩:=by
 unfold agV at h
 split at h
 ·obtain⟨vs,rfl,k2⟩:=k
  rw[Jkl h k2]
 ·obtain⟨vs,rfl,k2⟩:=R1.agInv k
  rw[Jkl h (RCs.ofD k2)]
 ·cases h
def flds(P:Program)(t:TypeId):List Field:=match P.underlying t with | some (.struct fs)=>fs.toList | _=>[]
def JiG(P:Program)(t:TypeId):List Nat:=(flds P t).map fun f=>JlA (P.underlying f.type)
def JeU(P:Program)(h:Hp)(op:BinOp)(t:TypeId)(x y:AV):AR :=
 match op,agV x,agV y with
 | .eql,some as,some bs=>⟨JjA P t=true∧as.map JcI=JiG P t∧(eqVs as bs).1,.c (.d (.v (.bool (eqVs as bs).2))),h⟩
 | .neq,some as,some bs=>⟨JjA P t=true∧as.map JcI=JiG P t∧(eqVs as bs).1,.c (.d (.v (.bool (!(eqVs as bs).2)))),h⟩
 | _,_,_=>.bad h
theorem Jm7{P:Program}{t:TypeId}(as bs:List Value)(w:World)(h1:JjA P t=true)(h2:as.map JcI=JiG P t)(h4:(eqVs as bs).1)(xo yo:Operand):
  (do eqGuard .eql t xo yo (.agg ⟨as⟩) (.agg ⟨bs⟩); binOp .eql t (.agg ⟨as⟩) (.agg ⟨bs⟩)).run P w=.ok (.bool (eqVs as bs).2) w ∧
  (do eqGuard .neq t xo yo (.agg ⟨as⟩) (.agg ⟨bs⟩); binOp .neq t (.agg ⟨as⟩) (.agg ⟨bs⟩)).run P w=.ok (.bool (!(eqVs as bs).2)) w:=by
 have h2:=Jq6 (P:=P) (fs:=flds P t) h2
 unfold JjA at h1
 unfold flds at h2
 cases hu:P.underlying t with
 | none=>rw[hu]at h1; cases h1
 | some D =>
  rw[hu]at h1 h2
  cases D with
  | struct fs =>
   simp only[Bool.and_eq_true,Bool.not_eq_true']at h1
   obtain⟨⟨⟨⟨g0,g1⟩,g2⟩,g3⟩,_⟩:=h1
   have h3:fs.toList≠[]:=by simpa using g0
   have hfs:P.fieldsOf t=fs:=by simp[Program.fieldsOf,hu]
   have e1:(Op.equal t (.agg ⟨as⟩) (.agg ⟨bs⟩)).run P w=.ok (eqVs as bs).2 w:=by
    show(Op.equalIn (9999+1) t _ _).run P w=_
    rw[run_equalIn_struct w 9999 t _ _ (by rw[hfs]; exact hu) g2,hfs]
    exact JfY 9998 _ _ w fs.toList 0 as bs g1 h3 (fun i hi=>by simp) (fun i hi=>by simp) h2 h4
   constructor <;> simp[eqGuard,Sem.run_bind,run_program,g3,Go.binOp,e1]
  | _=>simp at h1
def VL:AV→Nat×Bool
 | .c (.ex (.slice o _ _) _)=>(1,o.isNone)
 | .c (.pt _ _)=>(2,false)
 | .c (.op p _ _)=>(2,!p)
 | .c (.d (.ne b))=>(4,b)
 | .c (.os _ _ _ _)=>(1,false)
 | _=>(0,false)
def nilP:AV→Prop
 | .c (.os _ _ _ len)=>0<len
 | _=>True
def Jdp:Operand→Nat
 | .const (.slice none _ _)=>1
 | .const (.pointer none)=>2
 | .const .nilIface=>4
 | _=>3
def Jft(P:Program)(t:TypeId):Nat:=match P.underlying t with | some (.slice _)=>1 | some (.pointer _)=>2 | some (.interface _)=>4 | _=>0
def JdJ(P:Program)(h:Hp)(op:BinOp)(t:TypeId)(x:AV):AR :=
 match op with
 | .eql=>⟨Jft P t=(VL x).1∧nilP x,.c (.d (.v (.bool (VL x).2))),h⟩
 | .neq=>⟨Jft P t=(VL x).1∧nilP x,.c (.d (.v (.bool (!(VL x).2)))),h⟩
 | _=>.bad h
theorem Juv{P:Program}{t el:TypeId}(hu:P.underlying t=some (.slice el))(d:Nat)(o:Option Addr)(n c n' c':Nat)(w:World):(Op.equalIn (d+1) t (.slice o n c) (.slice none n' c')).run P w=.ok o.isNone w:=by
 cases o <;> simp only[Op.equalIn,Sem.run_bind,run_underlying hu,Result.andThen_ok,Sem.run_pure,Option.isNone]
theorem JhZ{P:Program}{t el:TypeId}(hu:P.underlying t=some (.slice el))(o:Option Addr)(n c n' c':Nat)(w:World):(Op.equal t (.slice o n c) (.slice none n' c')).run P w=.ok o.isNone w:=Juv hu 9999 o n c n' c' w
theorem JtE{P:Program}{t el:TypeId}(hu:P.underlying t=some (.pointer el))(d:Nat)(a:Option Addr)(w:World):(Op.equalIn (d+1) t (.pointer a) (.pointer none)).run P w=.ok a.isNone w:=by
 cases a <;> simp only[Op.equalIn,Sem.run_bind,run_underlying hu,Result.andThen_ok,Sem.run_pure,Option.isNone]
theorem JpA{P:Program}{t el:TypeId}(hu:P.underlying t=some (.pointer el))(a:Option Addr)(w:World):(Op.equal t (.pointer a) (.pointer none)).run P w=.ok a.isNone w:=JtE hu 9999 a w
theorem Jv1{P:Program}{e:Env}{a:AV}{v:Value}{t:TypeId}{yo:Operand}(hab:(VL a).1=Jdp yo)(ht:Jft P t=(VL a).1)(hnp:nilP a)(h1:RA e a v)(ac:Act)(w:World)(xo:Operand):
  (do eqGuard .eql t xo yo v (ac.eval yo); binOp .eql t v (ac.eval yo)).run P w=.ok (.bool (VL a).2) w∧(do eqGuard .neq t xo yo v (ac.eval yo); binOp .neq t v (ac.eval yo)).run P w=.ok (.bool (!(VL a).2)) w:=by
 unfold Jft at ht
 unfold Jdp at hab
 split at hab
 ·simp only[Act.eval]
  unfold VL at hab ht ⊢
  split at hab
  ·obtain⟨rfl,_⟩:=h1
   simp only at ht ⊢
   cases hu:P.underlying t with
   | none=>rw[hu]at ht; cases ht
   | some D =>
    rw[hu]at ht
    cases D <;> try (simp at ht; done)
    constructor
    ·simp only[eqGuard,Sem.run_bind,Go.binOp,Result.andThen_ok,JhZ hu,Sem.run_pure,reduceCtorEq,Bool.not_true,if_false,Bool.false_eq_true]
    ·simp only[eqGuard,Sem.run_bind,Go.binOp,Result.andThen_ok,JhZ hu,Sem.run_pure,reduceCtorEq,Bool.not_true,if_false,Bool.false_eq_true]
  ·cases hab
  ·cases hab
  ·cases hab
  ·rename_i n sz off len
   have hnp:0<len:=hnp
   rcases h1 with⟨h0,_⟩|⟨b,cap,_,_,rfl,_⟩
   ·omega
   cases hu:P.underlying t with
   | none=>rw[hu]at ht; cases ht
   | some D =>
    rw[hu]at ht
    cases D <;> try (simp at ht; done)
    constructor
    ·simp only[eqGuard,Sem.run_bind,Go.binOp,Result.andThen_ok,JhZ hu,Sem.run_pure,reduceCtorEq,Bool.not_true,if_false,Bool.false_eq_true,Option.isNone]
    ·simp only[eqGuard,Sem.run_bind,Go.binOp,Result.andThen_ok,JhZ hu,Sem.run_pure,reduceCtorEq,Bool.not_true,if_false,Bool.false_eq_true,Option.isNone]
  ·cases hab
 ·simp only[Act.eval]
  have hp:∀ el,P.underlying t=some (.pointer el)→∀ x:Option Addr,(do eqGuard .eql t xo (.const (.pointer none)) (.pointer x) (.pointer none); binOp .eql t (.pointer x) (.pointer none)).run P w=.ok (.bool x.isNone) w∧(do eqGuard .neq t xo (.const (.pointer none)) (.pointer x) (.pointer none); binOp .neq t (.pointer x) (.pointer none)).run P w=.ok (.bool (!x.isNone)) w:=by
   intro el hu x
   constructor
   ·simp only[eqGuard,Sem.run_bind,Go.binOp,Result.andThen_ok,JpA hu,Sem.run_pure,reduceCtorEq,Bool.not_true,if_false,Bool.false_eq_true]
   ·simp only[eqGuard,Sem.run_bind,Go.binOp,Result.andThen_ok,JpA hu,Sem.run_pure,reduceCtorEq,Bool.not_true,if_false,Bool.false_eq_true]
  have hpt:Jft P t=2→∃ el,P.underlying t=some (.pointer el):=by
   intro h
   unfold Jft at h
   cases hu:P.underlying t with
   | none=>rw[hu]at h; cases h
   | some D =>
    rw[hu]at h
    cases D <;> first | exact⟨_,rfl⟩ | (simp at h; done)
  unfold VL at hab ht ⊢
  split at hab
  ·cases hab
  ·obtain⟨el,hu⟩:=hpt ht
   obtain⟨b,_,rfl⟩:=h1
   exact hp el hu _
  ·obtain⟨el,hu⟩:=hpt ht
   obtain⟨_,h1⟩:=h1
   rcases h1 with⟨rfl,rfl⟩|⟨rfl,b,_,rfl⟩
   ·exact hp el hu _
   ·exact hp el hu _
  ·cases hab
  ·cases hab
  ·cases hab
 ·simp only[Act.eval]
  have hit:Jft P t=4→∃ ms,P.underlying t=some (.interface ms):=by
   intro h
   unfold Jft at h
   cases hu:P.underlying t with
   | none=>rw[hu]at h; cases h
   | some D =>
    rw[hu]at h
    cases D <;> first | exact⟨_,rfl⟩ | (simp at h; done)
  unfold VL at hab ht ⊢
  split at hab
  ·cases hab
  ·cases hab
  ·cases hab
  ·obtain⟨ms,hu⟩:=hit ht
   have he:∀ u v,(Op.equal t (.iface u v) .nilIface).run P w=.ok false w:=by
    intro u v
    show(Op.equalIn (9999+1) t _ _).run P w=_
    unfold Op.equalIn
    simp only[Sem.run_bind,run_underlying hu,Result.andThen_ok]; rfl
   have hn:(Op.equal t .nilIface .nilIface).run P w=.ok true w:=by
    show(Op.equalIn (9999+1) t _ _).run P w=_
    unfold Op.equalIn
    simp only[Sem.run_bind,run_underlying hu,Result.andThen_ok]; rfl
   rename_i bb
   have h1:RD e.w e.S (.one (.ne bb) v):=h1
   cases h1 with
   | ne0=>constructor <;> simp[eqGuard,Sem.run_bind,Go.binOp,hn,Sem.run_pure]
   | ne1 u x=>constructor <;> simp[eqGuard,Sem.run_bind,Go.binOp,he,Sem.run_pure]
  ·cases hab
  ·cases hab
 ·exfalso
  unfold VL at hab
  split at hab <;> cases hab
def aBin(P:Program)(σ:Nat→AV)(h:Hp)(op:BinOp)(t:TypeId)(x y:Operand):AR :=
 match evA σ x,evA σ y with
 | .c (.d (.v a)),.c (.d (.v b))=>⟨(abin P op t a b).1,.c (.d (.v (abin P op t a b).2)),h⟩
 | a,b=>if(VL a).1=Jdp y then JdJ P h op t a else JeU P h op t a b
theorem Jxr{Γ:Ctx}{σ:Nat→AV}{h:Hp}(o:Oper)(op:BinOp)(t:TypeId)(x y:Operand)(yt:TypeId)(ho:o.op=.binOp op t x y yt)(hp:(aBin Γ.P σ h op t x y).pre):
  VR Γ o σ h (aBin Γ.P σ h op t x y).val (aBin Γ.P σ h op t x y).h:=by
 unfold aBin at *
 split at hp
 ·rename_i u v hx hy
  refine VR.of_run fun a e hop hw=>⟨_,?_,.v _⟩
  have h1:=hop x (by simp[ho,Op.operands])
  have h2:=hop y (by simp[ho,Op.operands])
  rw[hx]at h1; rw[hy]at h2
  have h1:=R1.vInv h1
  have h2:=R1.vInv h2
  have:=Jp4 Γ.P op t x y u v e.w hp
  simp only[execOp,ho,h1,h2]
  rw[Sem.run_bind,this]
  rfl
 ·split at hp
  ·rename_i hnil
   simp only[if_pos hnil]
   have key:∀ a e,Jc4 o σ a e→(Jft Γ.P t=(VL (evA σ x)).1∧nilP (evA σ x))→_:=fun a e hop ht =>
    Jv1 (P:=Γ.P) hnil ht.1 ht.2 (hop x (by simp[ho,Op.operands])) a e.w x
   unfold JdJ at hp ⊢
   split at hp
   ·refine VR.of_run fun a e hop hw=>⟨_,?_,.v _⟩
    have:=(key a e hop hp).1
    simp only[execOp,ho]
    rw[Sem.run_bind,this]
    rfl
   ·refine VR.of_run fun a e hop hw=>⟨_,?_,.v _⟩
    have:=(key a e hop hp).2
    simp only[execOp,ho]
    rw[Sem.run_bind,this]
    rfl
   ·exact hp.elim
  rename_i hnil
  simp only[if_neg hnil]
  unfold JeU at hp ⊢
  split at hp
  ·rename_i as bs ha hb
   refine VR.of_run fun a e hop hw=>⟨_,?_,.v _⟩
   have h1:=Jhp ha (hop x (by simp[ho,Op.operands]))
   have h2:=Jhp hb (hop y (by simp[ho,Op.operands]))
   have:=(Jm7 as bs e.w hp.1 hp.2.1 hp.2.2 x y).1
   simp only[execOp,ho,h1,h2]
   rw[Sem.run_bind,this]
   rfl
  ·rename_i as bs ha hb
   refine VR.of_run fun a e hop hw=>⟨_,?_,.v _⟩
   have h1:=Jhp ha (hop x (by simp[ho,Op.operands]))
   have h2:=Jhp hb (hop y (by simp[ho,Op.operands]))
   have:=(Jm7 as bs e.w hp.1 hp.2.1 hp.2.2 x y).2
   simp only[execOp,ho,h1,h2]
   rw[Sem.run_bind,this]
   rfl
  ·exact hp.elim
def aUn(σ:Nat→AV)(h:Hp)(op:UnOp)(x:Operand):AR :=
 match evA σ x with
 | .c (.d (.v a))=>⟨(aun op a).1,.c (.d (.v (aun op a).2)),h⟩
 | _=>.bad h
theorem Jyg{Γ:Ctx}{σ:Nat→AV}{h:Hp}(o:Oper)(op:UnOp)(t:TypeId)(x:Operand)(ho:o.op=.unOp op t x)(hp:(aUn σ h op x).pre):
  VR Γ o σ h (aUn σ h op x).val (aUn σ h op x).h:=by
 unfold aUn at *
 split at hp
 ·rename_i u hx
  refine VR.of_run fun a e hop hw=>⟨_,?_,.v _⟩
  have h1:=hop x (by simp[ho,Op.operands])
  rw[hx]at h1
  have h1:=R1.vInv h1
  simp only[execOp,ho,h1]
  rw[Sem.run_bind,Jxo _ _ _ _ hp]
  rfl
 ·exact hp.elim
def Ja2(P:Program)(σ:Nat→AV)(h:Hp)(s:TypeId)(x:Operand)(f:Nat):AR :=
 match evA σ x with
 | .c (.pt n off)=>⟨JI P s f=true,.c (.pt n (off+tOff P s f)),h⟩
 | .c (.pp l)=>⟨JI P s f=true,.c (.pp (l.drop (tOff P s f))),h⟩
 | .c (.pa n sz i off)=>⟨JI P s f=true,.c (.pa n sz i (off+tOff P s f)),h⟩
 | _=>.bad h
theorem Jfv{P:Program}{s:TypeId}{f:Nat}(h:JI P s f=true)(b o:Nat)(w:World):
  (Instr.fieldAt s (.pointer (some ⟨b,o,none⟩)) f).run P w=.ok (.pointer (some ⟨b,o+tOff P s f,none⟩)) w:=by
 unfold JI at h
 split at h
 ·rename_i fs hu
  simp only[Bool.and_eq_true,Option.isSome_iff_exists,bne_iff_ne,ne_eq]at h
  obtain⟨⟨⟨⟨fd,hf⟩,hz⟩,⟨d,hd⟩⟩,⟨i,hi⟩⟩:=h
  simp only[hf,Option.map_some,Option.getD_some]at hz hd hi
  have hs:=J6 P fd.type w (by simp[JQ,hi,hd])
  simp only[Instr.fieldAt,Sem.run_bind,run_underlying hu,Result.andThen_ok,hf,Instr.sureAddr,fieldPlace,hs,hz,if_false,Sem.run_pure,tOff,hu,Option.map_some,Option.getD_some]
  simp only[Addr.add]
  split <;> simp_all
 ·simp at h
theorem Jpd{Γ:Ctx}{σ:Nat→AV}{h:Hp}(o:Oper)(s:TypeId)(x:Operand)(f:Nat)(ho:o.op=.fieldAddr s x f)(hp:(Ja2 Γ.P σ h s x f).pre):
  VR Γ o σ h (Ja2 Γ.P σ h s x f).val (Ja2 Γ.P σ h s x f).h:=by
 unfold Ja2 at *
 split at hp
 ·rename_i n off hx
  refine VR.of_run fun a e hop hw=>?_
  have h1:=hop x (by simp[ho,Op.operands])
  rw[hx]at h1
  obtain⟨b,h2,h3⟩:=h1
  refine⟨_,?_,b,h2,rfl⟩
  simp only[execOp,ho,h3]
  rw[Sem.run_bind,Jfv hp]
  rfl
 ·rename_i l hx
  refine VR.of_run fun a e hop hw=>?_
  have h1:=hop x (by simp[ho,Op.operands])
  rw[hx]at h1
  obtain⟨b,of,vs,h2,h3,h4⟩:=h1
  refine⟨_,?_,b,of+tOff Γ.P s f,vs.drop (tOff Γ.P s f),rfl,h3.drop _,fun i y hy=>?_⟩
  ·simp only[execOp,ho,h2]
   rw[Sem.run_bind,Jfv hp]
   rfl
  ·have:=h4 (tOff Γ.P s f+i) y (by simpa using hy)
   simpa [Nat.add_assoc] using this
 ·rename_i n sz i off hx
  refine VR.of_run fun a e hop hw=>?_
  have h1:=hop x (by simp[ho,Op.operands])
  rw[hx]at h1
  obtain⟨b,h2,h3⟩:=h1
  refine⟨_,?_,b,h2,rfl⟩
  simp only[execOp,ho,h3]
  rw[Sem.run_bind,Jfv hp,Nat.add_assoc]
  rfl
 ·exact hp.elim
end Go.Proofs.Ytaofbminodhcnaa
namespace Go.Proofs.Ytaofbminodhcnaa
open Go.RowKit
def JsJ(P:Program)(t:TypeId):Nat:=match P.underlying t with | some (.array n _)=>n | _=>0
def tAEl(P:Program)(t:TypeId):TypeId:=match P.underlying t with | some (.array _ e)=>e | _=>0
def tAOk(P:Program)(t:TypeId):Bool:=match P.underlying t with | some (.array _ e)=>(P.info? e).isSome && (P.underlying e).isSome | _=>false
def Ja3(P:Program)(σ:Nat→AV)(h:Hp)(t:TypeId)(x ix:Operand):AR :=
 match slD (evA σ x),evA σ ix with
 | some (sz,l),.c (.d (.v (.int _ i)))=>⟨JU P t=true∧sz=Jo P (Ju P t)∧0≤i∧i.toNat<l.length,.c (.pp (l.getD i.toNat default).cells),h⟩
 | none,.c (.d (.v (.int _ i)))=>match evA σ x with
  | .c (.os n sz off len)=>⟨JU P t=true∧sz=Jo P (Ju P t)∧0≤i∧i.toNat<len,.c (.pa n sz (off+i.toNat) 0),h⟩
  | .c (.pt n off)=>⟨tAOk P t=true∧0≤i∧i.toNat<JsJ P t,.c (.pt n (off+i.toNat * Jo P (tAEl P t))),h⟩
  | _=>.bad h
 | _,_=>.bad h
theorem JoW{Γ:Ctx}{σ:Nat→AV}{h:Hp}(o:Oper)(t:TypeId)(x ix:Operand)(ho:o.op=.indexAddr t x ix)(hp:(Ja3 Γ.P σ h t x ix).pre):
  VR Γ o σ h (Ja3 Γ.P σ h t x ix).val (Ja3 Γ.P σ h t x ix).h:=by
 unfold Ja3 at *
 split at hp
 ·rename_i sz l k i hx hi
  obtain⟨ht,rfl,h0,hl⟩:=hp
  refine VR.of_run fun a e hop hw=>?_
  have h1:=(hop x (by simp[ho,Op.operands])).slD hx
  have h2:=hop ix (by simp[ho,Op.operands])
  rw[hi]at h2
  have h2:=R1.vInv h2
  unfold JU at ht
  split at ht
  ·rename_i el hu
   simp only[Bool.and_eq_true]at ht
   have he:Ju Γ.P t=el:=by simp[Ju,hu]
   rw[he]at h1
   rcases h1.slInv with⟨rfl,_⟩|⟨vs,b,of,cap,h3,h4,h5,h6,h7⟩
   ·simp at hl
   ·have hd:l[i.toNat]? = some (l.getD i.toNat default):=by simp[List.getD_eq_getElem?_getD,List.getElem?_eq_getElem hl]
    have hfl:=Jhu h6 _ _ hd
    have hs:=J6 Γ.P el e.w (by simp[JQ,ht])
    refine⟨.pointer (some ⟨b,of+i.toNat * Jo Γ.P el,none⟩),?_,b,_,(vs.drop (i.toNat * Jo Γ.P el)).take (Jo Γ.P el),rfl,?_,fun j y hy=>?_⟩
    ·simp only[execOp,ho,h2,h3,Instr.indexAt,asIntOf,Sem.run_bind,Sem.run_pure,Result.andThen_ok,run_underlying hu,h0,true_and,hs]
     rw[Sem.run_ite,if_pos (by omega)]
     simp only[Sem.run_bind,hs,Result.andThen_ok,Sem.run_pure,Addr.add]
     split <;> simp_all
    ·have:=(h4.drop (i.toNat * Jo Γ.P el)).take (Jo Γ.P el)
     rwa [hfl]at this
    ·rw[List.getElem?_take]at hy
     split at hy
     ·rw[List.getElem?_drop]at hy
      have:=h5 _ _ hy
      simpa [Nat.add_assoc] using this
     ·cases hy
  ·simp at ht
 ·rename_i k i hx hi
  split at hp
  ·rename_i n sz off len hxe
   obtain⟨ht,rfl,h0,hl⟩:=hp
   refine VR.of_run fun a e hop hw=>?_
   have h1:=hop x (by simp[ho,Op.operands])
   rw[hxe]at h1
   have h2:=hop ix (by simp[ho,Op.operands])
   rw[hi]at h2
   have h2:=R1.vInv h2
   unfold JU at ht
   split at ht
   ·rename_i el hu
    simp only[Bool.and_eq_true]at ht
    have he:Ju Γ.P t=el:=by simp[Ju,hu]
    rw[he]
    have hs:=J6 Γ.P el e.w (by simp[JQ,ht])
    rcases h1 with⟨hl0,_⟩|⟨b,cap,k1,k2,h3,k4⟩
    ·omega
    ·refine⟨.pointer (some ⟨b,(off+i.toNat) * Jo Γ.P el,none⟩),?_,b,k1,rfl⟩
     rw[Nat.add_mul]
     simp only[execOp,ho,h2,h3,Instr.indexAt,asIntOf,Sem.run_bind,Sem.run_pure,Result.andThen_ok,run_underlying hu,h0,true_and]
     rw[Sem.run_ite,if_pos (by omega)]
     simp only[Sem.run_bind,hs,Result.andThen_ok,Sem.run_pure,Addr.add]
     split <;> simp_all
   ·simp at ht
  ·rename_i n off hxe
   obtain⟨ht,h0,hl⟩:=hp
   refine VR.of_run fun a e hop hw=>?_
   have h1:=hop x (by simp[ho,Op.operands])
   rw[hxe]at h1
   have h2:=hop ix (by simp[ho,Op.operands])
   rw[hi]at h2
   have h2:=R1.vInv h2
   unfold tAOk at ht
   split at ht
   ·rename_i m el hu
    simp only[Bool.and_eq_true]at ht
    have he:tAEl Γ.P t=el:=by simp[tAEl,hu]
    have hn:JsJ Γ.P t=m:=by simp[JsJ,hu]
    rw[he]; rw[hn]at hl
    have hs:=J6 Γ.P el e.w (by simp[JQ,ht])
    obtain⟨b,k1,h3⟩:=h1
    refine⟨.pointer (some ⟨b,off+i.toNat * Jo Γ.P el,none⟩),?_,b,k1,rfl⟩
    have h4:(Instr.sureAddr (.pointer (some ⟨b,off,none⟩))).run Γ.P e.w=.ok ⟨b,off,none⟩ e.w:=rfl
    simp only[execOp,ho,h2,h3,Instr.indexAt,asIntOf,Sem.run_bind,Sem.run_pure,Result.andThen_ok,run_underlying hu,h4,h0,true_and]
    rw[Sem.run_ite,if_pos (by omega)]
    simp only[Sem.run_bind,hs,Result.andThen_ok,Sem.run_pure,Addr.add]
    split <;> simp_all
   ·simp at ht
  ·exact hp.elim
 ·exact hp.elim
def JeI(P:Program)(σ:Nat→AV)(h:Hp)(t:TypeId)(x ix:Operand):AR :=
 match evA σ x,evA σ ix with
 | .c (.d (.v (.string s))),.c (.d (.v (.int _ i)))=>⟨P.underlying t=some .string∧0≤i∧i.toNat<(bl s).length,.c (.d (.v (.int .u8 ((bl s).getD i.toNat 0).toNat))),h⟩
 | _,_=>.bad h
theorem JuV{Γ:Ctx}{σ:Nat→AV}{h:Hp}(o:Oper)(t:TypeId)(x ix:Operand)(ho:o.op=.index t x ix)(hp:(JeI Γ.P σ h t x ix).pre):
  VR Γ o σ h (JeI Γ.P σ h t x ix).val (JeI Γ.P σ h t x ix).h:=by
 unfold JeI at *
 split at hp
 ·rename_i s k i hx hi
  obtain⟨ht,h0,hl⟩:=hp
  refine VR.of_run fun a e hop hw=>⟨_,?_,.v _⟩
  have h1:=hop x (by simp[ho,Op.operands])
  rw[hx]at h1
  have h1:=R1.vInv h1
  have h2:=hop ix (by simp[ho,Op.operands])
  rw[hi]at h2
  have h2:=R1.vInv h2
  have hg:s[i.toNat]? = some ((bl s).getD i.toNat 0):=by
   have hl':i.toNat<s.size:=by rw[Jew]; exact hl
   rw[getElem?_pos s i.toNat hl']
   simp only[List.getD_eq_getElem?_getD,List.getElem?_eq_getElem hl,Option.getD_some]
   rfl
  simp only[execOp,ho,h1,h2,Instr.index,asIntOf,Sem.run_bind,Sem.run_pure,Result.andThen_ok,run_underlying ht,h0,if_true,hg]
 ·exact hp.elim
def aLen(P:Program)(σ:Nat→AV)(h:Hp)(t:TypeId)(x:Operand):AR :=
 match evA σ x with
 | .c (.d (.v (.string s)))=>⟨P.underlying t=some .string,.c (.d (.v (.int .i64 ((bl s).length)))),h⟩
 | .c (.d (.sl _ l))=>⟨JU P t=true,.c (.d (.v (.int .i64 (l.length)))),h⟩
 | .c (.sl _ l _)=>⟨JU P t=true,.c (.d (.v (.int .i64 (l.length)))),h⟩
 | .c (.ex _ (.sl _ l))=>⟨JU P t=true,.c (.d (.v (.int .i64 (l.length)))),h⟩
 | .c (.fs _ l)=>⟨JU P t=true,.c (.d (.v (.int .i64 (l.length)))),h⟩
 | .c (.os _ _ _ len)=>⟨JU P t=true,.c (.d (.v (.int .i64 len))),h⟩
 | _=>.bad h
theorem Jeb{P:Program}{t:TypeId}{v:Value}{w:World}{S:Nat→Nat→Prop}{sz:Nat}{l:List D}(ht:JU P t=true)(h:R1 w S (.sl sz l) v)(ty:TypeId):
  (Builtin.len_ #[t] ty #[v]).run P w=.ok (.int .i64 l.length) w:=by
 unfold JU at ht
 split at ht
 ·rename_i el hu
  rcases h.slInv with⟨rfl,o,rfl⟩|⟨vs,b,of,cap,rfl,_⟩ <;> simp[Builtin.len_,run_underlying hu,goInt]
 ·simp at ht
theorem JxL{Γ:Ctx}{σ:Nat→AV}{h:Hp}(o:Oper)(t:TypeId)(x:Operand)(ho:o.op=.call { callee:=.builtin .len,args:=#[x],argTypes:=#[t] })(hp:(aLen Γ.P σ h t x).pre):
  VR Γ o σ h (aLen Γ.P σ h t x).val (aLen Γ.P σ h t x).h:=by
 have hmem:x∈o.op.operands:=by simp[ho,Op.operands,Call.operands]
 have hex:∀ (a:Act) (w:World) (r:Value),(Builtin.len_ #[t] o.type #[a.eval x]).run Γ.P w=.ok r w→(execOp a.eval o).run Γ.P w=.ok (.value r) w:=by
  intro a w r hr
  simp only[execOp,ho,resolve,invoke,builtin,Sem.run_bind,Sem.run_pure,Result.andThen_ok,List.map_toArray,List.map_cons,List.map_nil,hr]
 unfold aLen at *
 split at hp
 ·rename_i s hx
  refine VR.of_run fun a e hop hw=>⟨_,hex _ _ _ ?_,.v _⟩
  have h1:=hop x hmem
  rw[hx]at h1
  have h1:=R1.vInv h1
  simp[Builtin.len_,h1,run_underlying hp,goInt,Jew]
 ·rename_i sz l hx
  refine VR.of_run fun a e hop hw=>⟨_,hex _ _ _ ?_,.v _⟩
  have h1:=hop x hmem
  rw[hx]at h1
  exact Jeb hp h1 _
 ·rename_i sz l k hx
  refine VR.of_run fun a e hop hw=>⟨_,hex _ _ _ ?_,.v _⟩
  have h1:=hop x hmem
  rw[hx]at h1
  exact Jeb hp h1.1 _
 ·rename_i y sz l hx
  refine VR.of_run fun a e hop hw=>⟨_,hex _ _ _ ?_,.v _⟩
  have h1:=hop x hmem
  rw[hx]at h1
  exact Jeb hp h1.2 _
 ·rename_i sz l hx
  refine VR.of_run fun a e hop hw=>⟨_,hex _ _ _ ?_,.v _⟩
  have h1:=hop x hmem
  rw[hx]at h1
  exact Jeb hp h1.1 _
 ·rename_i n sz off len hx
  refine VR.of_run fun a e hop hw=>⟨_,hex _ _ _ ?_,.v _⟩
  have h1:=hop x hmem
  rw[hx]at h1
  unfold JU at hp
  split at hp
  ·rename_i el hu
   rcases h1 with⟨rfl,o,h⟩|⟨b,cap,_,_,h,_⟩ <;> rw[h] <;> simp[Builtin.len_,run_underlying hu,goInt]
  ·simp at hp
 ·exact hp.elim
def Jaw(σ:Nat→AV)(h:Hp)(mx:Bool)(x y:Operand):AR :=
 match evA σ x,evA σ y with
 | .c (.d (.v (.int k a))),.c (.d (.v (.int k' b)))=>⟨k=k',.c (.d (.v (.int k (if mx then(if b > a then b else a) else(if b<a then b else a))))),h⟩
 | _,_=>.bad h
theorem JnH{Γ:Ctx}{σ:Nat→AV}{h:Hp}(o:Oper)(mx:Bool)(ts:Array TypeId)(x y:Operand)(ho:o.op=.call { callee:=.builtin (if mx then .max else .min),args:=#[x,y],argTypes:=ts })(hp:(Jaw σ h mx x y).pre):
  VR Γ o σ h (Jaw σ h mx x y).val (Jaw σ h mx x y).h:=by
 unfold Jaw at *
 split at hp
 ·rename_i k a' k' b' hx hy
  refine VR.of_run fun a e hop hw=>⟨_,?_,.v _⟩
  have h1:=hop x (by simp[ho,Op.operands,Call.operands])
  have h2:=hop y (by simp[ho,Op.operands,Call.operands])
  rw[hx]at h1; rw[hy]at h2
  have h1:=R1.vInv h1
  have h2:=R1.vInv h2
  cases mx <;> simp[execOp,ho,resolve,invoke,builtin,h1,h2,Builtin.min_,Builtin.max_,Builtin.min2,Builtin.max2]
 ·exact hp.elim
def JcO(σ:Nat→AV)(h:Hp)(x:Operand)(i:Nat):AR :=
 match evA σ x with
 | .c (.d (.tu l))=>⟨i<l.length,.c (.d (l.getD i default)),h⟩
 | .tu l=>⟨i<l.length,AV.comp (l.getD i (false,[])),h⟩
 | _=>.bad h
theorem Jsk{Γ:Ctx}{σ:Nat→AV}{h:Hp}(o:Oper)(x:Operand)(i:Nat)(ho:o.op=.extract x i)(hp:(JcO σ h x i).pre):
  VR Γ o σ h (JcO σ h x i).val (JcO σ h x i).h:=by
 unfold JcO at *
 split at hp
 ·rename_i l hx
  refine VR.of_run fun a e hop hw=>?_
  have h1:=hop x (by simp[ho,Op.operands])
  rw[hx]at h1
  obtain⟨vs,h1,h2⟩:=R1.tuInv h1
  obtain⟨v,h3,h4⟩:=h2.get i (l.getD i default) (by simp[List.getD_eq_getElem?_getD,List.getElem?_eq_getElem hp])
  refine⟨v,?_,h4⟩
  simp[execOp,ho,h1,Instr.extract,h3]
 ·rename_i l hx
  refine VR.of_run fun a e hop hw=>?_
  have h1:=hop x (by simp[ho,Op.operands])
  rw[hx]at h1
  obtain⟨vs,h1,h2⟩:=h1
  obtain⟨v,h3,h4⟩:=h2.get i hp
  refine⟨v,?_,h4⟩
  simp[execOp,ho,h1,Instr.extract,h3]
 ·exact hp.elim
def JdG(P:Program)(σ:Nat→AV)(h:Hp)(t:TypeId)(x y:Operand)(c:Bool):AR :=
 match evA σ x,evA σ y with
 | .c (.fm Φ),.c (.d (.v k))=>⟨Φ.P=P∧Φ.t=t∧Φ.ok k,if c=true then .tu [(false,[.d (.v (Φ.at_ k))]),(false,[.d (.v (.bool (Φ.has k)))])] else .c (.d (.v (Φ.at_ k))),h⟩
 | _,_=>.bad h
theorem Jto{Γ:Ctx}{σ:Nat→AV}{h:Hp}(o:Oper)(t:TypeId)(x y:Operand)(c:Bool)(ho:o.op=.lookup t x y c)(hp:(JdG Γ.P σ h t x y c).pre):
  VR Γ o σ h (JdG Γ.P σ h t x y c).val (JdG Γ.P σ h t x y c).h:=by
 unfold JdG at *
 split at hp
 ·rename_i Φ k hx hy
  refine VR.of_run fun a e hop hw=>?_
  have h1:=hop x (by simp[ho,Op.operands])
  have h2:=hop y (by simp[ho,Op.operands])
  rw[hx]at h1; rw[hy]at h2
  have h2:=R1.vInv h2
  obtain⟨b,es,cl,h3,h4,h5,h6⟩:=h1
  obtain⟨p1,p2,p3⟩:=hp
  have hr:=Φ.law h4 h5 k p3 c
  rw[p1,p2]at hr
  refine⟨if c=true then .tuple #[Φ.at_ k,.bool (Φ.has k)] else Φ.at_ k,?_,?_⟩
  ·simp only[execOp,ho,h3,h2]
   rw[Sem.run_bind,hr]; rfl
  ·cases c
   ·exact .v _
   ·exact⟨_,rfl,⟨_,rfl,.v _⟩,⟨_,rfl,.v _⟩,trivial⟩
 ·exact hp.elim
def Jcc(σ:Nat→AV)(h:Hp)(x:Operand):AR :=
 match evA σ x with
 | .c (.pt n off)=>⟨True,.c (.pt n off),h⟩
 | .c (.pp l)=>⟨True,.c (.pp l),h⟩
 | .c (.pa n sz i off)=>⟨True,.c (.pa n sz i off),h⟩
 | _=>.bad h
theorem Jqz{Γ:Ctx}{σ:Nat→AV}{h:Hp}(o:Oper)(x:Operand)(ho:o.op=.nilCheck x)(hp:(Jcc σ h x).pre):
  VR Γ o σ h (Jcc σ h x).val (Jcc σ h x).h:=by
 unfold Jcc at *
 split at hp
 ·rename_i n off hx
  refine VR.of_run fun a e hop hw=>⟨a.eval x,?_,?_⟩
  ·have h1:=hop x (by simp[ho,Op.operands])
   rw[hx]at h1
   obtain⟨b,h2,h3⟩:=h1
   simp[execOp,ho,h3]
  ·have h1:=hop x (by simp[ho,Op.operands])
   rwa [hx]at h1
 ·rename_i l hx
  refine VR.of_run fun a e hop hw=>⟨a.eval x,?_,?_⟩
  ·have h1:=hop x (by simp[ho,Op.operands])
   rw[hx]at h1
   obtain⟨b,of,vs,h2,h3⟩:=h1
   simp[execOp,ho,h2]
  ·have h1:=hop x (by simp[ho,Op.operands])
   rwa [hx]at h1
 ·rename_i n sz i off hx
  refine VR.of_run fun a e hop hw=>⟨a.eval x,?_,?_⟩
  ·have h1:=hop x (by simp[ho,Op.operands])
   rw[hx]at h1
   obtain⟨b,h2,h3⟩:=h1
   simp[execOp,ho,h3]
  ·have h1:=hop x (by simp[ho,Op.operands])
   rwa [hx]at h1
 ·exact hp.elim
def KL(P:Program)(h:Hp)(t:TypeId)(row:List C)(off:Nat):AR :=
 ⟨JQ P t=true∧off+Jo P t≤row.length∧(tAgg P t=false→off<row.length),if tAgg P t then .ag ((row.drop off).take (Jo P t)) else .c (row.getD off default),h⟩
def Jbo(P:Program)(h:Hp)(t:TypeId)(sz i off:Nat):Option (List C)→AR
 | some [.arr sz' l]=>⟨sz=sz'∧i<l.length∧(KL P h t ((l.getD i default).cells.map C.d) off).pre,(KL P h t ((l.getD i default).cells.map C.d) off).val,h⟩
 | some [.arr sz' l,c]=>⟨sz=sz'∧off=0∧i=l.length∧(KL P h t [c] 0).pre,(KL P h t [c] 0).val,h⟩
 | _=>.bad h
def JeQ(P:Program)(σ:Nat→AV)(h:Hp)(t:TypeId)(x:Operand):AR :=
 match evA σ x with
 | .c (.pt n off)=>match h.H n with
  | some row=>⟨rowP row=true∧(KL P h t row off).pre,(KL P h t row off).val,h⟩
  | none=>.bad h
 | .c (.pp l)=>KL P h t (l.map C.d) 0
 | .c (.pa n sz i off)=>Jbo P h t sz i off (h.H n)
 | _=>.bad h
theorem Jfq{P:Program}{h:Hp}{t:TypeId}{row:List C}{off:Nat}{e:Env}{b o:Nat}{vs:List Value}
  (hp:(KL P h t row off).pre) (hr:RCs e row vs) (hc:∀ i x,vs[i]? = some x→e.w.cell? ⟨b,o+i,none⟩=some x) :
  ∃ v,(Instr.loadAt t (.pointer (some ⟨b,o+off,none⟩))).run P e.w=.ok v e.w∧RA e (KL P h t row off).val v:=by
 obtain⟨h1,h2,h3⟩:=hp
 have hlen:=hr.length
 simp only[KL]
 cases hag:tAgg P t with
 | true =>
  have hs:=J6 P t e.w h1
  have hi:=JfM P t e.w h1
  rw[hag]at hi
  have hl:((vs.drop off).take (Jo P t)).length=Jo P t:=by simp; omega
  have hcells:(loadCells ⟨b,o+off,none⟩ (Jo P t)).run P e.w=.ok ((vs.drop off).take (Jo P t)).toArray e.w:=by
   have:=run_loadCells_list (P:=P) (w:=e.w) ⟨b,o+off,none⟩ ((vs.drop off).take (Jo P t)) (fun j x hx=>by
    rw[List.getElem?_take]at hx
    split at hx
    ·rw[List.getElem?_drop]at hx
     have:=hc _ _ hx
     simp only[Addr.add]
     split
     ·rename_i h0; simpa [h0] using this
     ·simpa [Nat.add_assoc] using this
    ·cases hx)
   rwa [hl]at this
  refine⟨.agg ((vs.drop off).take (Jo P t)).toArray,?_,?_⟩
  ·simp[Instr.loadAt,Instr.sureAddr,loadVar,hi,hs,hcells]
  ·exact⟨_,rfl,(hr.drop off).take _⟩
 | false =>
  have hi:=JfM P t e.w h1
  rw[hag]at hi
  have hof:=h3 hag
  obtain⟨v,hv,hv'⟩:=hr.get off (row.getD off default) (by simp[List.getD_eq_getElem?_getD,List.getElem?_eq_getElem hof])
  refine⟨v,?_,hv'⟩
  have:=hc _ _ hv
  simp[Instr.loadAt,Instr.sureAddr,loadVar,hi,this]
theorem JwP{Γ:Ctx}{σ:Nat→AV}{h:Hp}(o:Oper)(t:TypeId)(x:Operand)(ho:o.op=.load t x)(hp:(JeQ Γ.P σ h t x).pre):
  VR Γ o σ h (JeQ Γ.P σ h t x).val (JeQ Γ.P σ h t x).h:=by
 unfold JeQ at *
 split at hp
 ·rename_i n off hx
  split at hp
  ·rename_i row hrow
   refine VR.of_run fun a e hop hw=>?_
   have h1:=hop x (by simp[ho,Op.operands])
   rw[hx]at h1
   obtain⟨b,h2,h3⟩:=h1
   obtain⟨b',cs,ty,h4,h5,h6,h7,_⟩:=hw.boxAt h2 row hrow (ZO hp.1)
   rw[h2]at h4
   simp at h4
   subst h4
   obtain⟨v,h8,h9⟩:=Jfq (b:=b) (o:=0) hp.2 (h6.plain hp.1) (fun i x hx=>by simp[World.cell?,h5]; simpa using hx)
   refine⟨v,?_,h9⟩
   simp only[execOp,ho,h3]
   rw[Sem.run_bind]
   simp only[Nat.zero_add]at h8
   rw[h8]; rfl
  ·exact hp.elim
 ·rename_i l hx
  refine VR.of_run fun a e hop hw=>?_
  have h1:=hop x (by simp[ho,Op.operands])
  rw[hx]at h1
  obtain⟨b,of,vs,h2,h3,h4⟩:=h1
  obtain⟨v,h8,h9⟩:=Jfq (b:=b) (o:=of) hp (RCs.ofD h3) (fun i x hx=>(h4 i x hx).1)
  refine⟨v,?_,h9⟩
  simp only[execOp,ho,h2]
  rw[Sem.run_bind]
  simp only[Nat.add_zero]at h8
  rw[h8]; rfl
 ·rename_i n sz i off hx
  unfold Jbo at *
  split at hp
  ·rename_i sz' l hrow
   obtain⟨rfl,hil,hp⟩:=hp
   refine VR.of_run fun a e hop hw=>?_
   have h1:=hop x (by simp[ho,Op.operands])
   rw[hx]at h1
   obtain⟨b,h2,h3⟩:=h1
   obtain⟨b',cs,ty,h4,h5,h6,h7,_⟩:=hw.boxAt h2 _ hrow rfl
   rw[h2]at h4
   simp at h4
   subst h4
   obtain⟨us,ts,zs,cap,k1,k2,k3,k4,k5,k6,k7,k8,k9⟩:=h6
   have hd:l[i]? = some (l.getD i default):=by simp[List.getD_eq_getElem?_getD,List.getElem?_eq_getElem hil]
   have hfl:=Jhu k3 _ _ hd
   have hr:=(k2.drop (i * sz)).take sz
   rw[hfl]at hr
   obtain⟨v,h8,h9⟩:=Jfq (b:=b) (o:=i * sz) hp (RCs.ofD hr) (fun j y hy=>by
    rw[List.getElem?_take]at hy
    split at hy
    ·rw[List.getElem?_drop]at hy
     have hlt:i * sz+j<us.length:=(List.getElem?_eq_some_iff.1 hy).1
     simp only[World.cell?,h5]
     have:cs.toList[i * sz+j]? = some y:=by rw[k1,List.append_assoc,List.getElem?_append_left hlt]; exact hy
     simpa using this
    ·cases hy)
   refine⟨v,?_,h9⟩
   simp only[execOp,ho,h3]
   rw[Sem.run_bind,h8]; rfl
  ·rename_i sz' l c hrow
   obtain⟨rfl,rfl,rfl,hp⟩:=hp
   refine VR.of_run fun a e hop hw=>?_
   have h1:=hop x (by simp[ho,Op.operands])
   rw[hx]at h1
   obtain⟨b,h2,h3⟩:=h1
   obtain⟨b',cs,ty,h4,h5,h6,h7,_⟩:=hw.boxAt h2 _ hrow rfl
   rw[h2]at h4
   simp at h4
   subst h4
   obtain⟨us,ts,zs,cap,k1,k2,k3,k4,k5,k6,k7,k8,k9⟩:=h6
   have hz:sz=1:=k5.resolve_left (by simp)
   have hul:us.length=l.length * sz:=by rw[k2.length,Vt k3]
   obtain⟨v,h8,h9⟩:=Jfq (b:=b) (o:=l.length * sz) hp k4 (fun j y hy=>by
    have hlt:j<ts.length:=(List.getElem?_eq_some_iff.1 hy).1
    simp only[World.cell?,h5]
    have:cs.toList[l.length * sz+j]? = some y:=by
     rw[k1,List.append_assoc,List.getElem?_append_right (by omega),hul,show l.length * sz+j-l.length * sz=j by omega,List.getElem?_append_left hlt]; exact hy
    simpa using this)
   refine⟨v,?_,h9⟩
   simp only[execOp,ho,h3]
   rw[Sem.run_bind,h8]; rfl
  ·exact hp.elim
 ·exact hp.elim
end Go.Proofs.Ytaofbminodhcnaa
namespace Go.Proofs.Ytaofbminodhcnaa
open Go.RowKit
def bnd(σ:Nat→AV)(d:Int):Option Operand→Option Int
 | none=>some d
 | some x=>match evA σ x with
  | .c (.d (.v (.int _ i)))=>some i
  | _=>none
theorem Jgn{σ:Nat→AV}{a:Act}{e:Env}{d i:Int}{x:Option Operand}(h:bnd σ d x=some i)
  (ho:∀ y,x=some y→RA e (evA σ y) (a.eval y)):(x=none∧i=d)∨∃ y k,x=some y∧a.eval y=.int k i:=by
 cases x with
 | none=>simp[bnd]at h; exact .inl ⟨rfl,h.symm⟩
 | some y =>
  simp only[bnd]at h
  split at h
  ·rename_i k j hy
   have h1:=ho y rfl
   rw[hy]at h1
   have h1:=R1.vInv h1
   simp at h; subst h
   exact .inr ⟨y,k,rfl,h1⟩
  ·cases h
theorem JeN{P:Program}{w:World}{σ:Nat→AV}{a:Act}{e:Env}{isS:Bool}{len cap:Nat}{lo hi:Option Operand}{l h:Int}
  (hl:bnd σ 0 lo=some l) (hh:bnd σ len hi=some h) (h0:0≤l) (h1:l≤h) (h2:h≤len) (hc:len≤cap)
  (hlo:∀ y,lo=some y→RA e (evA σ y) (a.eval y)) (hhi:∀ y,hi=some y→RA e (evA σ y) (a.eval y)) :
  (Instr.sliceBounds isS len cap (lo.map a.eval) (hi.map a.eval) none).run P w=.ok (l.toNat,h.toNat,cap) w:=by
 have e1:(match (hi.map a.eval) with | some v=>Instr.sliceBound v cap (if isS then .sliceAcap else .sliceAlen) | none=>pure len:Sem Nat).run P w=.ok h.toNat w:=by
  rcases Jgn hh hhi with⟨rfl,rfl⟩|⟨y,k,rfl,hy⟩
  ·simp
  ·simp only[Option.map_some,hy,Instr.sliceBound,asIntOf,Sem.run_bind,Sem.run_pure,Result.andThen_ok]
   rw[if_pos (by omega),Sem.run_pure]
 have e2:(match (lo.map a.eval) with | some v=>Instr.sliceBound v h.toNat .sliceB | none=>pure 0:Sem Nat).run P w=.ok l.toNat w:=by
  rcases Jgn hl hlo with⟨rfl,rfl⟩|⟨y,k,rfl,hy⟩
  ·simp
  ·simp only[Option.map_some,hy,Instr.sliceBound,asIntOf,Sem.run_bind,Sem.run_pure,Result.andThen_ok]
   rw[if_pos (by omega),Sem.run_pure]
 unfold Instr.sliceBounds
 simp only[Sem.run_bind,Sem.run_pure,Result.andThen_ok]
 cases hi with
 | none =>
  simp only[Option.map_none,Sem.run_pure,Result.andThen_ok]at e1 ⊢
  cases lo with
  | none=>simp at e1 e2 ⊢; exact⟨e2,e1⟩
  | some y=>simp at e1 e2 ⊢; rw[e1,e2]; simp
 | some z =>
  simp only[Option.map_some]at e1 ⊢
  rw[Sem.run_bind,e1]
  simp only[Result.andThen_ok]
  cases lo with
  | none=>simp at e2 ⊢; exact e2
  | some y=>simp at e2 ⊢; rw[e2]; simp
def JeW(P:Program)(σ:Nat→AV)(h:Hp)(t:TypeId)(x:Operand)(lo hi:Option Operand):AR :=
 match evA σ x with
 | .c (.os n sz off len)=>match bnd σ 0 lo,bnd σ len hi with
  | some l,some k=>⟨JU P t=true∧sz=Jo P (Ju P t)∧0≤l∧l≤k∧k≤len,.c (.os n sz (off+l.toNat) (k.toNat-l.toNat)),h⟩
  | _,_=>.bad h
 | .c (.d (.v (.string s)))=>match bnd σ 0 lo,bnd σ (bl s).length hi with
  | some l,some k=>⟨P.underlying t=some .string∧0≤l∧l≤k∧k≤(bl s).length,.c (.d (.v (str (((bl s).drop l.toNat).take (k.toNat-l.toNat))))),h⟩
  | _,_=>.bad h
 | y=>match slD y with
  | some (sz,m)=>match bnd σ 0 lo,bnd σ m.length hi with
   | some l,some k=>⟨JU P t=true∧sz=Jo P (Ju P t)∧0≤l∧l≤k∧k≤m.length,.c (.d (.sl sz ((m.drop l.toNat).take (k.toNat-l.toNat)))),h⟩
   | _,_=>.bad h
  | none=>.bad h
theorem JgV{sz:Nat}:∀ {l:List D} (n:Nat),(∀ d∈l,d.cells.length=sz)→(l.drop n).flatMap D.cells=(l.flatMap D.cells).drop (n * sz)
 | _,0,_=>by simp
 | [],n+1,_=>by simp
 | d::l,n+1,h=>by
  have h1:=h d (by simp)
  have:=JgV (l:=l) n (fun d hd=>h d (by simp[hd]))
  rw[List.drop_succ_cons,this,List.flatMap_cons,show(n+1) * sz=d.cells.length+n * sz by rw[h1,Nat.add_mul]; omega,List.drop_append]
  have e:List.drop (d.cells.length+n * sz) d.cells=[]:=List.drop_of_length_le (by omega)
  rw[e]; simp
theorem JfE{sz:Nat}:∀ {l:List D} (n:Nat),(∀ d∈l,d.cells.length=sz)→(l.take n).flatMap D.cells=(l.flatMap D.cells).take (n * sz)
 | _,0,_=>by simp
 | [],n+1,_=>by simp
 | d::l,n+1,h=>by
  have h1:=h d (by simp)
  have:=JfE (l:=l) n (fun d hd=>h d (by simp[hd]))
  rw[List.take_succ_cons,List.flatMap_cons,this,List.flatMap_cons,show(n+1) * sz=d.cells.length+n * sz by rw[h1,Nat.add_mul]; omega,List.take_append]
  have e:List.take (d.cells.length+n * sz) d.cells=d.cells:=List.take_of_length_le (by omega)
  rw[e]; simp
theorem R1.slice{w:World}{S:Nat→Nat→Prop}{sz:Nat}{m:List D}{vs:List Value}{b o cap l k:Nat}
  (h4:Rn w S (m.flatMap D.cells) vs) (h5:∀ i x,vs[i]? = some x→w.cell? ⟨b,o+i,none⟩=some x∧¬ S b (o+i)) (h6:∀ d∈m,d.cells.length=sz)
  (h1:l≤k) (h2:k≤m.length) (h7:k≤cap) :
  R1 w S (.sl sz ((m.drop l).take (k-l))) (.slice (some ⟨b,o+l * sz,none⟩) (k-l) (cap-l)):=by
 have hlen:((m.drop l).take (k-l)).length=k-l:=by simp; omega
 have hsub:∀ d∈(m.drop l).take (k-l),d.cells.length=sz:=fun d hd=>h6 d (List.mem_of_mem_drop (List.mem_of_mem_take hd))
 have:=RD.sl (w:=w) (S:=S) sz ((m.drop l).take (k-l)) ((vs.drop (l * sz)).take ((k-l) * sz)) b (o+l * sz) (cap-l) (by
  rw[JfE _ (fun d hd=>h6 d (List.mem_of_mem_drop hd)),JgV _ h6]
  exact(h4.drop _).take _) (fun i x hx=>by
   rw[List.getElem?_take]at hx
   split at hx
   ·rw[List.getElem?_drop]at hx
    have:=h5 _ _ hx
    simpa [Nat.add_assoc] using this
   ·cases hx) hsub (by omega)
 rwa [hlen]at this
theorem JuG{Γ:Ctx}{σ:Nat→AV}{h:Hp}(o:Oper)(t:TypeId)(x:Operand)(lo hi:Option Operand)(ho:o.op=.slice t x lo hi none)(hp:(JeW Γ.P σ h t x lo hi).pre):
  VR Γ o σ h (JeW Γ.P σ h t x lo hi).val (JeW Γ.P σ h t x lo hi).h:=by
 have mx:x∈o.op.operands:=by simp[ho,Op.operands]
 have mlo:∀ y,lo=some y→y∈o.op.operands:=fun y hy=>by subst hy; simp[ho,Op.operands]
 have mhi:∀ y,hi=some y→y∈o.op.operands:=fun y hy=>by subst hy; simp[ho,Op.operands]
 unfold JeW at *
 split at hp
 ·rename_i n sz off len hx
  split at hp
  ·rename_i l k hl hk
   obtain⟨ht,rfl,h0,h1,h2⟩:=hp
   refine VR.of_run fun a e hop hw=>?_
   have e1:=hop x mx
   rw[hx]at e1
   unfold JU at ht
   split at ht
   ·rename_i el hu
    simp only[Bool.and_eq_true]at ht
    have he:Ju Γ.P t=el:=by simp[Ju,hu]
    rw[he]at e1 ⊢
    have hs:=J6 Γ.P el e.w (by simp[JQ,ht])
    rcases e1 with⟨rfl,o',e2⟩|⟨b,cap,k1,k2,e2,k4⟩
    ·have hb:=JeN (P:=Γ.P) (w:=e.w) (isS:=true) (len:=0) (cap:=0) (a:=a) (e:=e) hl hk h0 h1 (by simpa using h2) (Nat.le_refl _) (fun y hy=>hop y (mlo y hy)) (fun y hy=>hop y (mhi y hy))
     have hk0:k.toNat=0:=by simp at h2; omega
     have hl0:l.toNat=0:=by simp at h2; omega
     refine⟨.slice o' 0 0,?_,.inl ⟨by omega,o',rfl⟩⟩
     simp only[execOp,ho,e2,Instr.sliceAt,Instr.slice,Sem.run_bind,run_underlying hu,Result.andThen_ok,Option.map_none,hb,hs,Sem.run_pure,hk0,hl0]
     simp
    ·have hb:=JeN (P:=Γ.P) (w:=e.w) (isS:=true) (len:=len) (cap:=cap-off) (a:=a) (e:=e) hl hk h0 h1 h2 (by omega) (fun y hy=>hop y (mlo y hy)) (fun y hy=>hop y (mhi y hy))
     by_cases hcl:cap-off=l.toNat
     ·refine⟨.slice (some ⟨b,off * Jo Γ.P el,none⟩) (k.toNat-l.toNat) (cap-off-l.toNat),?_,.inl ⟨by omega,_,by rw[show k.toNat-l.toNat=0 by omega,show cap-off-l.toNat=0 by omega]⟩⟩
      rw[hcl]at hb
      simp only[execOp,ho,e2,Instr.sliceAt,Instr.slice,Sem.run_bind,run_underlying hu,Result.andThen_ok,Option.map_none,hb,hs,Sem.run_pure,hcl,if_true]
     ·refine⟨.slice (some ⟨b,(off+l.toNat) * Jo Γ.P el,none⟩) (k.toNat-l.toNat) (cap-(off+l.toNat)),?_,.inr ⟨b,cap,k1,k2,rfl,by omega⟩⟩
      rw[Nat.add_mul,show cap-(off+l.toNat)=cap-off-l.toNat by omega]
      simp only[execOp,ho,e2,Instr.sliceAt,Instr.slice,Sem.run_bind,run_underlying hu,Result.andThen_ok,Option.map_none,hb,hs,Sem.run_pure,hcl,if_false,Option.map_some,Addr.add]
      split <;> simp_all
   ·simp at ht
  ·exact hp.elim
 ·rename_i s hx
  split at hp
  ·rename_i l k hl hk
   obtain⟨hu,h0,h1,h2⟩:=hp
   refine VR.of_run fun a e hop hw=>⟨_,?_,.v _⟩
   have e1:=hop x mx
   rw[hx]at e1
   have e1:=R1.vInv e1
   have hb:=JeN (P:=Γ.P) (w:=e.w) (isS:=false) (len:=(bl s).length) (cap:=(bl s).length) (a:=a) (e:=e) hl hk h0 h1 h2 (Nat.le_refl _) (fun y hy=>hop y (mlo y hy)) (fun y hy=>hop y (mhi y hy))
   have hs:s.size=(bl s).length:=Jew s
   have hex:s.extract l.toNat k.toNat=⟨(((bl s).drop l.toNat).take (k.toNat-l.toNat)).toArray⟩:=by
    apply ByteArray.ext
    rw[ByteArray.data_extract]
    apply Array.ext'
    simp[bl]
   simp only[execOp,ho,e1,Instr.sliceAt,Instr.slice,Sem.run_bind,run_underlying hu,Result.andThen_ok,Option.map_none,Option.isSome_none,Bool.false_eq_true,if_false,hs,hb,Sem.run_pure,hex]
  ·exact hp.elim
 ·rename_i y hy
  split at hp
  ·rename_i sz m hsl
   split at hp
   ·rename_i l k hl hk
    obtain⟨ht,rfl,h0,h1,h2⟩:=hp
    refine VR.of_run fun a e hop hw=>?_
    have e1:=(hop x mx).slD hsl
    unfold JU at ht
    split at ht
    ·rename_i el hu
     simp only[Bool.and_eq_true]at ht
     have he:Ju Γ.P t=el:=by simp[Ju,hu]
     rw[he]at e1 ⊢
     have hs:=J6 Γ.P el e.w (by simp[JQ,ht])
     rcases e1.slInv with⟨rfl,o',e2⟩|⟨vs,b,of,cap,h3,h4,h5,h6,h7⟩
     ·have hb:=JeN (P:=Γ.P) (w:=e.w) (isS:=true) (len:=0) (cap:=0) (a:=a) (e:=e) hl hk h0 h1 (by simpa using h2) (Nat.le_refl _) (fun y hy=>hop y (mlo y hy)) (fun y hy=>hop y (mhi y hy))
      have hk0:k.toNat=0:=by simp at h2; omega
      have hl0:l.toNat=0:=by simp at h2; omega
      refine⟨.slice o' 0 0,?_,?_⟩
      ·simp only[execOp,ho,e2,Instr.sliceAt,Instr.slice,Sem.run_bind,run_underlying hu,Result.andThen_ok,Option.map_none,hb,hs,Sem.run_pure,hk0,hl0]
       simp
      ·simp; exact .slnil _ _
     ·have hb:=JeN (P:=Γ.P) (w:=e.w) (isS:=true) (len:=m.length) (cap:=cap) (a:=a) (e:=e) hl hk h0 h1 h2 h7 (fun y hy=>hop y (mlo y hy)) (fun y hy=>hop y (mhi y hy))
      by_cases hcl:cap=l.toNat
      ·subst hcl
       refine⟨.slice (some ⟨b,of,none⟩) (k.toNat-l.toNat) (l.toNat-l.toNat),?_,?_⟩
       ·simp only[execOp,ho,h3,Instr.sliceAt,Instr.slice,Sem.run_bind,run_underlying hu,Result.andThen_ok,Option.map_none,hb,hs,Sem.run_pure,if_true]
       ·have hk0:k.toNat-l.toNat=0:=by omega
        rw[hk0]
        simp only[List.take_zero]
        exact RD.sl _ [] [] b of _ .anil (by simp) (by simp) (by simp)
      ·refine⟨.slice (some ⟨b,of+l.toNat * Jo Γ.P el,none⟩) (k.toNat-l.toNat) (cap-l.toNat),?_,?_⟩
       ·simp only[execOp,ho,h3,Instr.sliceAt,Instr.slice,Sem.run_bind,run_underlying hu,Result.andThen_ok,Option.map_none,hb,hs,Sem.run_pure,hcl,if_false,Option.map_some,Addr.add]
        split <;> simp_all
       ·exact R1.slice h4 h5 h6 (by omega) (by omega) (by omega)
    ·simp at ht
   ·exact hp.elim
  ·exact hp.elim
def JdC(P:Program)(σ:Nat→AV)(h:Hp)(t:TypeId)(x:Operand)(lo:Option Operand)(hi mx:Operand):AR :=
 match slD (evA σ x) with
 | some (sz,m)=>match bnd σ 0 lo,bnd σ 0 (some hi),bnd σ 0 (some mx) with
  | some l,some k,some c=>⟨JU P t=true∧sz=Jo P (Ju P t)∧0≤l∧l≤k∧k=c∧k≤m.length,.c (.sl sz ((m.drop l.toNat).take (k.toNat-l.toNat)) 0),h⟩
  | _,_,_=>.bad h
 | none=>match evA σ x,bnd σ 0 lo,bnd σ 0 (some hi),bnd σ 0 (some mx) with
  | .c (.os _ sz _ _),some l,some k,some c=>⟨JU P t=true∧sz=Jo P (Ju P t)∧l=0∧k=0∧c=0,.c (.sl sz [] 0),h⟩
  | _,_,_,_=>.bad h
theorem Jhc{P:Program}{w:World}{σ:Nat→AV}{a:Act}{e:Env}{len cap:Nat}{lo:Option Operand}{hi mx:Operand}{l k:Int}
  (hl:bnd σ 0 lo=some l) (hh:bnd σ 0 (some hi)=some k) (hm:bnd σ 0 (some mx)=some k) (h0:0≤l) (h1:l≤k) (h2:k≤len) (hc:len≤cap)
  (hlo:∀ y,lo=some y→RA e (evA σ y) (a.eval y)) (hhi:RA e (evA σ hi) (a.eval hi)) (hmx:RA e (evA σ mx) (a.eval mx)) :
  (Instr.sliceBounds true len cap (lo.map a.eval) (some (a.eval hi)) (some (a.eval mx))).run P w=.ok (l.toNat,k.toNat,k.toNat) w:=by
 obtain⟨kh,hhv⟩:∃ q,a.eval hi=.int q k:=by
  rcases Jgn hh (fun y hy=>by cases hy; exact hhi) with⟨h,_⟩|⟨y,q,h,h'⟩
  ·cases h
  ·cases h; exact⟨q,h'⟩
 obtain⟨km,hmv⟩:∃ q,a.eval mx=.int q k:=by
  rcases Jgn hm (fun y hy=>by cases hy; exact hmx) with⟨h,_⟩|⟨y,q,h,h'⟩
  ·cases h
  ·cases h; exact⟨q,h'⟩
 have b1:(Instr.sliceBound (a.eval mx) cap .slice3Acap).run P w=.ok k.toNat w:=by
  simp only[hmv,Instr.sliceBound,asIntOf,Sem.run_bind,Sem.run_pure,Result.andThen_ok]
  rw[if_pos (by omega),Sem.run_pure]
 have b2:(Instr.sliceBound (a.eval hi) k.toNat .slice3B).run P w=.ok k.toNat w:=by
  simp only[hhv,Instr.sliceBound,asIntOf,Sem.run_bind,Sem.run_pure,Result.andThen_ok]
  rw[if_pos (by omega),Sem.run_pure]
 have b3:(match (lo.map a.eval) with | some v=>Instr.sliceBound v k.toNat .slice3C | none=>pure 0:Sem Nat).run P w=.ok l.toNat w:=by
  rcases Jgn hl hlo with⟨rfl,rfl⟩|⟨y,q,rfl,hy⟩
  ·simp
  ·simp only[Option.map_some,hy,Instr.sliceBound,asIntOf,Sem.run_bind,Sem.run_pure,Result.andThen_ok]
   rw[if_pos (by omega),Sem.run_pure]
 unfold Instr.sliceBounds
 simp only[Sem.run_bind,if_true,b1,Result.andThen_ok,b2,Option.isSome_some]
 cases lo with
 | none=>simp at b3 ⊢; omega
 | some y=>simp only[Option.map_some]at b3 ⊢; simp[b3]
theorem Jtn{Γ:Ctx}{σ:Nat→AV}{h:Hp}(o:Oper)(t:TypeId)(x:Operand)(lo:Option Operand)(hi mx:Operand)(ho:o.op=.slice t x lo (some hi) (some mx))(hp:(JdC Γ.P σ h t x lo hi mx).pre):
  VR Γ o σ h (JdC Γ.P σ h t x lo hi mx).val (JdC Γ.P σ h t x lo hi mx).h:=by
 have mx0:x∈o.op.operands:=by simp[ho,Op.operands]
 have mlo:∀ y,lo=some y→y∈o.op.operands:=fun y hy=>by subst hy; simp[ho,Op.operands]
 have mhi:hi∈o.op.operands:=by simp[ho,Op.operands]
 have mmx:mx∈o.op.operands:=by simp[ho,Op.operands]
 unfold JdC at *
 split at hp
 ·rename_i sz m hsl
  split at hp
  ·rename_i l k c hl hk hc
   obtain⟨ht,rfl,h0,h1,rfl,h2⟩:=hp
   refine VR.of_run fun a e hop hw=>?_
   have e1:=(hop x mx0).slD hsl
   unfold JU at ht
   split at ht
   ·rename_i el hu
    simp only[Bool.and_eq_true]at ht
    have he:Ju Γ.P t=el:=by simp[Ju,hu]
    rw[he]at e1 ⊢
    have hs:=J6 Γ.P el e.w (by simp[JQ,ht])
    rcases e1.slInv with⟨rfl,o',e2⟩|⟨vs,b,of,cap,h3,h4,h5,h6,h7⟩
    ·have hb:=Jhc (P:=Γ.P) (w:=e.w) (len:=0) (cap:=0) (a:=a) (e:=e) hl hk hc h0 h1 (by simpa using h2) (Nat.le_refl _) (fun y hy=>hop y (mlo y hy)) (hop hi mhi) (hop mx mmx)
     have hk0:k.toNat=0:=by simp at h2; omega
     have hl0:l.toNat=0:=by simp at h2; omega
     refine⟨.slice o' 0 0,?_,?_,.inl ⟨_,_,rfl⟩⟩
     ·simp only[execOp,ho,e2,Instr.sliceAt,Instr.slice,Sem.run_bind,run_underlying hu,Result.andThen_ok,Option.map_some,hb,hs,Sem.run_pure,hk0,hl0]
      simp
     ·simp; exact .slnil _ _
    ·have hb:=Jhc (P:=Γ.P) (w:=e.w) (len:=m.length) (cap:=cap) (a:=a) (e:=e) hl hk hc h0 h1 h2 h7 (fun y hy=>hop y (mlo y hy)) (hop hi mhi) (hop mx mmx)
     by_cases hcl:k.toNat=l.toNat
     ·refine⟨.slice (some ⟨b,of,none⟩) (k.toNat-l.toNat) (k.toNat-l.toNat),?_,?_,.inl ⟨_,_,rfl⟩⟩
      ·simp only[execOp,ho,h3,Instr.sliceAt,Instr.slice,Sem.run_bind,run_underlying hu,Result.andThen_ok,Option.map_some,hb,hs,Sem.run_pure,hcl,if_true]
      ·rw[show k.toNat-l.toNat=0 by omega]
       simp only[List.take_zero]
       exact RD.sl _ [] [] b of _ .anil (by simp) (by simp) (by simp)
     ·refine⟨.slice (some ⟨b,of+l.toNat * Jo Γ.P el,none⟩) (k.toNat-l.toNat) (k.toNat-l.toNat),?_,?_,.inl ⟨_,_,rfl⟩⟩
      ·simp only[execOp,ho,h3,Instr.sliceAt,Instr.slice,Sem.run_bind,run_underlying hu,Result.andThen_ok,Option.map_some,hb,hs,Sem.run_pure,hcl,if_false,Addr.add]
       split <;> simp_all
      ·have:=R1.slice (cap:=k.toNat) h4 h5 h6 (show l.toNat≤k.toNat by omega) (by omega) (Nat.le_refl _)
       exact this
   ·simp at ht
  ·exact hp.elim
 ·split at hp
  ·rename_i n sz off len l k c hx hl hk hc
   obtain⟨ht,rfl,rfl,rfl,rfl⟩:=hp
   refine VR.of_run fun a e hop hw=>?_
   have e1:=hop x mx0
   rw[hx]at e1
   obtain⟨o',len',cap',e2,hle⟩:∃ o' len' cap',a.eval x=.slice o' len' cap'∧len'≤cap':=by
    rcases e1 with⟨_,o,e2⟩|⟨b,cap,_,_,e2,h5⟩
    ·exact⟨_,_,_,e2,Nat.le_refl _⟩
    ·exact⟨_,_,_,e2,by omega⟩
   unfold JU at ht
   split at ht
   ·rename_i el hu
    simp only[Bool.and_eq_true]at ht
    have he:Ju Γ.P t=el:=by simp[Ju,hu]
    have hs:=J6 Γ.P el e.w (by simp[JQ,ht])
    have hb:=Jhc (P:=Γ.P) (w:=e.w) (len:=len') (cap:=cap') (a:=a) (e:=e) hl hk hc (Int.le_refl 0) (Int.le_refl 0) (by omega) hle (fun y hy=>hop y (mlo y hy)) (hop hi mhi) (hop mx mmx)
    refine⟨.slice o' 0 0,?_,.slnil _ _,.inl ⟨_,_,rfl⟩⟩
    simp only[execOp,ho,e2,Instr.sliceAt,Instr.slice,Sem.run_bind,run_underlying hu,Result.andThen_ok,Option.map_some,hb,hs,Sem.run_pure]
    cases o' <;> simp
   ·simp at ht
  ·exact hp.elim
end Go.Proofs.Ytaofbminodhcnaa
namespace Go.Proofs.Ytaofbminodhcnaa
open Go.RowKit
structure Grows (w w':World):Prop where
 os:w'.os=w.os
 tape:w'.tape=w.tape
 output:w'.output=w.output
 size:w.heap.size≤w'.heap.size
 block:∀ k,k<w.heap.size→w'.heap[k]? = w.heap[k]?
theorem Grows.refl(w:World):Grows w w:=⟨rfl,rfl,rfl,Nat.le_refl _,fun _ _=>rfl⟩
theorem Grows.trans{a b c:World}(h:Grows a b)(k:Grows b c):Grows a c :=
 ⟨k.os.trans h.os,k.tape.trans h.tape,k.output.trans h.output,Nat.le_trans h.size k.size,fun i hi=>(k.block i (Nat.lt_of_lt_of_le hi h.size)).trans (h.block i hi)⟩
theorem Grows.alloc(w:World)(o:Obj):Grows w (w.alloc o):=⟨rfl,rfl,rfl,by simp,fun k hk=>Below.heap_alloc w o k hk⟩
theorem Grows.drew(w:World):Grows w w.drew:=⟨rfl,rfl,rfl,Nat.le_refl _,fun _ _=>rfl⟩
theorem Jaj{w w':World}{B ty sz n:Nat}{v:Value}{xs:List Value}(h:w.ownsRow B ty sz v n xs)(hb:∀ b,v.ownBlock=some b→w'.heap[b]? = w.heap[b]?):w'.ownsRow B ty sz v n xs:=by
 refine⟨h.1,?_⟩
 rcases h.2 with hn | ⟨g,cap,cur,rfl,r1,r2,r3⟩
 ·exact .inl hn
 ·exact .inr ⟨g,cap,cur,rfl,r1,by rw[hb g rfl]; exact r2,r3⟩
theorem WInv.grows{Γ:Ctx}{h:Hp}{e:Env}(hw:WInv Γ h e){w':World}{S':Nat→Nat→Prop}(hg:Grows e.w w')
  (hS:∀ b o,b<e.w.heap.size→(S' b o↔e.S b o)) (hd:∀ b o,S' b o→b<w'.heap.size) :
  WInv Γ h { e with w:=w',S:=S' }∧e.le { e with w:=w',S:=S' }:=by
 have hle:e.le { e with w:=w',S:=S' }:=⟨Keep.mk fun b o hc hs=>by
  have hb:=hc.lt
  exact⟨hg.block b hb,fun h'=>hs ((hS b o hb).1 h')⟩,fun _ _ h=>h,fun _ _ h=>h⟩
 refine⟨?_,hle⟩
 constructor
 ·exact hw.g0
 ·exact hg.os.trans hw.os
 ·exact hg.tape.trans hw.tape
 ·exact hg.output.trans hw.output
 ·exact Nat.le_trans hw.grown hg.size
 ·exact Nat.le_trans hw.hB hg.size
 ·intro b hb hm
  exact(hg.block b (Nat.lt_of_lt_of_le hb hw.hB)).trans (hw.old b hb hm)
 ·exact hd
 ·intro b o h0 hm
  have:=hw.s0 b o h0 hm
  exact(hS b o (hw.sdom _ _ this)).2 this
 ·exact hw.s0B
 ·exact hw.keep.trans hle.keep
 ·intro n row hn
  rcases hw.box n row hn with hz | ⟨b,ob,h1,h2,h3,h4,h5⟩
  ·exact .inl hz
  have hb:b<e.w.heap.size:=(Array.getElem?_eq_some_iff.1 h2).1
  exact .inr ⟨b,ob,h1,(hg.block b hb).trans h2,RO.mono hle h3,fun o ho=>(hS b o hb).2 (h4 o ho),h5⟩
 ·exact hw.inj
 ·intro k ty hk
  obtain⟨h0,v,h1,hor⟩:=hw.tok k ty hk
  refine⟨h0,v,h1,hor.imp id ?_⟩
  rintro ⟨sz,n,xs,hsz,h2,h3,h4⟩
  have hlt:=h2.1.lt
  refine⟨sz,n,xs,hsz,⟨Jaj h2.1 (fun b hb=>hg.block b (hlt b hb).2),h2.2⟩,fun b o hb ho hc=>?_,h4⟩
  have hb':=(hlt b hb).2
  have hce:w'.cell? ⟨b,o,none⟩=e.w.cell? ⟨b,o,none⟩:=World.cell?_of_block (hg.block b hb')
  exact(hS b o hb').2 (h3 b o hb ho (by rw[← hce]; exact hc))
 ·exact hw.tokinj
 ·exact hw.fresh
 ·exact hw.nx0
 ·exact hw.rt
 ·exact hw.ext.of (fun _ k=>k) hg.size (fun n m h1 h2=>⟨h1,h2⟩) (fun n m h1 k h2=>⟨hg.block m k.lt,fun o ho=>(hS m o k.lt).2 ho⟩) (fun n m i h1 k h2 hi=>k.box i hi) (fun n m i v h1 k h2 hi=>k.tok i v hi)
   (fun n row j Φ hn hj=>⟨row,hn,hj,fun b cs ty v q1 q2 q3=>⟨cs,ty,q1,(hg.block b (Array.getElem?_eq_some_iff.1 q2).1).trans q2,q3⟩,fun m k=>k⟩)
theorem WInv.quiet{Γ:Ctx}{h:Hp}{e:Env}(hw:WInv Γ h e){w':World}(hg:Grows e.w w'):
  WInv Γ h { e with w:=w' }∧e.le { e with w:=w' } :=
 hw.grows (S':=e.S) hg (fun _ _ _=>Iff.rfl) (fun b o hb=>Nat.lt_of_lt_of_le (hw.sdom b o hb) hg.size)
theorem Env.le_name{e:Env}{n b:Nat}(h:e.ρ n=none):e.le { e with ρ:=upd e.ρ n (some b) } :=
 ⟨Keep.refl _ _,fun m c hm=>by
  have:m≠n:=fun he=>by rw[he,h]at hm; cases hm
  simp[upd,this,hm],fun _ _ h=>h⟩
theorem Env.le_tok{e:Env}{n:Nat}{v:Value}(h:e.τ n=none):e.le { e with τ:=upd e.τ n (some v) } :=
 ⟨Keep.refl _ _,fun _ _ h=>h,fun m c hm=>by
  have:m≠n:=fun he=>by rw[he,h]at hm; cases hm
  simp[upd,this,hm]⟩
theorem WInv.addArr{Γ:Ctx}{h:Hp}{e:Env}(hw:WInv Γ h e){b:Nat}{ob:Obj}{row:List C}{u:Value}
  (hb:e.w.heap[b]? = some ob) (hr:RO { e with ρ:=upd e.ρ h.nx (some b),τ:=upd e.τ h.nx (some u) } h.nx row ob) (hs:∀ o,o<JcE ob→e.S b o) (hB:Γ.B≤b∨Γ.M b)
  (hn:∀ n,h.H n≠none→e.ρ n≠some b) (ht:∀ k v,h.T k≠none→e.τ k=some v→¬ Vw v→v.ownBlock≠some b)
  (hμ:∀ n,h.H n≠none→¬ e.μ n b) (hkc:∀ c∈row,c.noK=true) :
  WInv Γ { h with H:=upd h.H h.nx (some row),nx:=h.nx+1 } { e with ρ:=upd e.ρ h.nx (some b),τ:=upd e.τ h.nx (some u) }∧e.le { e with ρ:=upd e.ρ h.nx (some b),τ:=upd e.τ h.nx (some u) }:=by
 obtain⟨f1,f2,f3,f4,f5⟩:=hw.fresh h.nx (Nat.le_refl _)
 have hle:e.le { e with ρ:=upd e.ρ h.nx (some b),τ:=upd e.τ h.nx (some u) }:=(Env.le_name (b:=b) f3).trans (Env.le_tok (e:={ e with ρ:=upd e.ρ h.nx (some b) }) f4)
 refine⟨?_,hle⟩
 constructor
 ·exact hw.g0
 ·exact hw.os
 ·exact hw.tape
 ·exact hw.output
 ·exact hw.grown
 ·exact hw.hB
 ·exact hw.old
 ·exact hw.sdom
 ·exact hw.s0
 ·exact hw.s0B
 ·exact hw.keep.trans hle.keep
 ·intro n r hnr
  by_cases hnn:n=h.nx
  ·subst hnn
   simp only[upd_same,Option.some.injEq]at hnr
   subst hnr
   exact .inr ⟨b,ob,by simp,hb,hr,hs,hB⟩
  ·simp only[upd,hnn,if_false]at hnr
   rcases hw.box n r hnr with hz | ⟨b',ob,h1,h2,h3,h4,h5⟩
   ·exact .inl ⟨by simp[upd,hnn,hz.1],hz.2⟩
   exact .inr ⟨b',ob,by simp[upd,hnn,h1],h2,RO.mono hle h3,h4,h5⟩
 ·intro n m c hn1 hm1 hn2 hm2
  simp only[upd]at hn1 hm1 hn2 hm2
  by_cases hnn:n=h.nx <;> by_cases hmm:m=h.nx
  ·rw[hnn,hmm]
  ·simp only[hnn,hmm,if_true,if_false]at hn2 hm2 hm1
   simp at hn2; subst hn2
   exact absurd hm2 (hn m hm1)
  ·simp only[hnn,hmm,if_true,if_false]at hn2 hm2 hn1
   simp at hm2; subst hm2
   exact absurd hn2 (hn n hn1)
  ·simp only[hnn,hmm,if_false]at hn1 hm1 hn2 hm2
   exact hw.inj n m c hn1 hm1 hn2 hm2
 ·intro k ty' hk
  obtain⟨h0,v,h1,hor⟩:=hw.tok k ty' hk
  have hknx:k≠h.nx:=fun he=>by simp only at hk; rw[he,f2]at hk; cases hk
  refine⟨h0,v,by simp[upd,hknx,h1],?_⟩
  by_cases hfull:Vw v
  ·exact .inl hfull
  obtain⟨sz,n,xs,hsz,h2,h3,h4⟩:=hor.resolve_left hfull
  refine .inr ⟨sz,n,xs,hsz,h2,h3,fun c hc m hm=>?_⟩
  simp only[upd]at hm ⊢
  by_cases hmm:m=h.nx
  ·simp only[hmm,if_true]
   intro he
   simp at he
   subst he
   exact ht k v (fun h'=>by simp only at hk; rw[h']at hk; cases hk) h1 hfull hc
  ·simp only[hmm,if_false]at hm ⊢
   exact h4 c hc m hm
 ·intro k m v w c hk hm hv hwm hvb hwb hfv hfw
  have hknx:k≠h.nx:=fun he=>by simp only at hk; rw[he,f2]at hk; exact hk rfl
  have hmnx:m≠h.nx:=fun he=>by simp only at hm; rw[he,f2]at hm; exact hm rfl
  simp only[upd,hknx,hmnx,if_false]at hv hwm
  exact hw.tokinj k m v w c hk hm hv hwm hvb hwb hfv hfw
 ·intro n hn'
  have hne:n≠h.nx:=by simp at hn'; omega
  obtain⟨g1,g2,g3,g4,g5⟩:=hw.fresh n (by simp at hn'; omega)
  exact⟨by simp[upd,hne,g1],g2,by simp[upd,hne,g3],by simp[upd,hne,g4],g5⟩
 ·exact Nat.succ_pos _
 ·refine⟨Nat.lt_succ_of_lt hw.rt.1,fun i x hx=>?_⟩
  have h1:=hw.rt.2 i x hx
  have hne:=hw.rne hx
  exact⟨by simp[upd,hne,h1.1],by simp[upd,hne,h1.2]⟩
 ·have hne:∀ n m,e.μ n m→n≠h.nx:=fun n m hm he=>f5 m (he ▸ hm)
  have gH:∀ n,n≠h.nx→upd h.H h.nx (some row) n≠none→h.H n≠none:=fun n hn=>by simp[upd,hn]
  refine hw.ext.of (fun _ k=>k) (Nat.le_refl _) (fun n m h1 h2=>⟨gH n (hne n m h2) h1,h2⟩) (fun n m h1 k h2=>⟨rfl,fun o ho=>ho⟩) (fun n m i h1 k h2 hi=>?_) (fun n m i v h1 k h2 hi hv=>?_)
   (fun n r j Φ hn hj=>?_)
  ·by_cases hin:i=h.nx
   ·subst hin
    simp only[upd_same,ne_eq,Option.some.injEq]
    exact fun he=>hμ n h1 (he ▸ h2)
   ·simp only[upd,hin,if_false]
    exact k.box i (gH i hin hi)
  ·have hin:i≠h.nx:=fun he=>by simp only at hi; rw[he,f2]at hi; exact hi rfl
   exact k.tok i v hi (by simpa [upd,hin] using hv)
  ·by_cases hin:n=h.nx
   ·subst hin
    simp only[upd_same,Option.some.injEq]at hn
    subst hn
    exact(Jcr hkc hj).elim
   ·exact⟨r,by simpa [upd,hin] using hn,hj,fun b cs ty v q1 q2 q3=>⟨cs,ty,by simpa [upd,hin] using q1,q2,q3⟩,fun m k=>k⟩
theorem WInv.dropBox{Γ:Ctx}{h:Hp}{e:Env}(hw:WInv Γ h e)(n:Nat):WInv Γ { h with H:=upd h.H n none } e:=by
 have g:∀ i,upd h.H n none i≠none→h.H i≠none:=fun i hi h0=>hi (by simp[upd,h0])
 constructor
 ·exact hw.g0
 ·exact hw.os
 ·exact hw.tape
 ·exact hw.output
 ·exact hw.grown
 ·exact hw.hB
 ·exact hw.old
 ·exact hw.sdom
 ·exact hw.s0
 ·exact hw.s0B
 ·exact hw.keep
 ·intro m r hm
  by_cases hmn:m=n
  ·subst hmn; simp at hm
  ·simp only[upd,hmn,if_false]at hm; exact hw.box m r hm
 ·intro m m' b hm hm'
  exact hw.inj m m' b (g m hm) (g m' hm')
 ·intro k ty hk
  obtain⟨h0,v,h1,hor⟩:=hw.tok k ty hk
  refine⟨h0,v,h1,hor.imp id ?_⟩
  rintro ⟨sz,m,xs,z1,z2,z3,z4⟩
  exact⟨sz,m,xs,z1,z2,z3,fun b hb i hi=>z4 b hb i (g i hi)⟩
 ·exact hw.tokinj
 ·intro m hm
  obtain⟨g1,g2,g3,g4,g5⟩:=hw.fresh m hm
  exact⟨by simp[upd,g1],g2,g3,g4,g5⟩
 ·exact hw.nx0
 ·exact hw.rt
 ·exact hw.ext.of (fun _ k=>k) (Nat.le_refl _) (fun n m h1 h2=>⟨g n h1,h2⟩) (fun n m h1 k h2=>⟨rfl,fun o ho=>ho⟩) (fun n m i h1 k h2 hi=>k.box i (g i hi)) (fun n m i v h1 k h2 hi=>k.tok i v hi)
   (fun m r j Φ hn hj=>⟨r,by
    by_cases hmn:m=n
    ·subst hmn; simp at hn
    ·simpa [upd,hmn] using hn,hj,fun b cs ty v q1 q2 q3=>⟨cs,ty,q1,q2,q3⟩,fun m k=>k⟩)
theorem WInv.addTok{Γ:Ctx}{h:Hp}{e:Env}(hw:WInv Γ h e){v:Value}{ty:TypeId}
  (ho:Vw v∨∃ sz n xs,(0<sz∧sz=Jo Γ.P ty)∧JjE Γ e.w ty sz v n xs∧(∀ b o,v.ownBlock=some b→n * sz≤o→(e.w.cell? ⟨b,o,none⟩).isSome→e.S b o) ∧
   (∀ b,v.ownBlock=some b→∀ m,h.H m≠none→e.ρ m≠some b))
  (ht:¬ Vw v→∀ k u b,h.T k≠none→e.τ k=some u→u.ownBlock=some b→¬ Vw u→v.ownBlock≠some b)
  (hμ:¬ Vw v→∀ n m,h.H n≠none→e.μ n m→v.ownBlock≠some m) :
  WInv Γ { h with T:=upd h.T h.nx (some ty),nx:=h.nx+1 } { e with τ:=upd e.τ h.nx (some v) }∧e.le { e with τ:=upd e.τ h.nx (some v) }:=by
 obtain⟨f1,f2,f3,f4,f5⟩:=hw.fresh h.nx (Nat.le_refl _)
 have hle:e.le { e with τ:=upd e.τ h.nx (some v) }:=Env.le_tok f4
 refine⟨?_,hle⟩
 constructor
 ·exact hw.g0
 ·exact hw.os
 ·exact hw.tape
 ·exact hw.output
 ·exact hw.grown
 ·exact hw.hB
 ·exact hw.old
 ·exact hw.sdom
 ·exact hw.s0
 ·exact hw.s0B
 ·exact hw.keep.trans hle.keep
 ·intro n r hnr
  rcases hw.box n r hnr with hz | ⟨b',ob,h1,h2,h3,h4,h5⟩
  ·exact .inl hz
  exact .inr ⟨b',ob,h1,h2,RO.mono hle h3,h4,h5⟩
 ·exact hw.inj
 ·intro k ty' hk
  by_cases hkk:k=h.nx
  ·subst hkk
   simp only[upd_same,Option.some.injEq]at hk
   subst hk
   exact⟨by have:=hw.nx0; omega,v,by simp,ho⟩
  ·simp only[upd,hkk,if_false]at hk
   obtain⟨h0,u,h1,h2⟩:=hw.tok k ty' hk
   exact⟨h0,u,by simp[upd,hkk,h1],h2⟩
 ·intro k m u u' b hk hm hu hu' hb hb' hf hf'
  simp only[upd]at hk hm hu hu'
  by_cases hkk:k=h.nx <;> by_cases hmm:m=h.nx
  ·rw[hkk,hmm]
  ·simp only[hkk,hmm,if_true,if_false]at hu hu' hm
   simp at hu; subst hu
   exact absurd hb (ht hf m u' b hm hu' hb' hf')
  ·simp only[hkk,hmm,if_true,if_false]at hu hu' hk
   simp at hu'; subst hu'
   exact absurd hb' (ht hf' k u b hk hu hb hf)
  ·simp only[hkk,hmm,if_false]at hk hm hu hu'
   exact hw.tokinj k m u u' b hk hm hu hu' hb hb' hf hf'
 ·intro m hm'
  have hne:m≠h.nx:=by simp at hm'; omega
  obtain⟨g1,g2,g3,g4,g5⟩:=hw.fresh m (by simp at hm'; omega)
  exact⟨g1,by simp[upd,hne,g2],g3,by simp[upd,hne,g4],g5⟩
 ·exact Nat.succ_pos _
 ·refine⟨Nat.lt_succ_of_lt hw.rt.1,fun i x hx=>?_⟩
  have h1:=hw.rt.2 i x hx
  have hne:=hw.rne hx
  exact⟨h1.1,by simp[upd,hne,h1.2]⟩
 ·refine hw.ext.of (fun _ k=>k) (Nat.le_refl _) (fun n m h1 h2=>⟨h1,h2⟩) (fun n m h1 k h2=>⟨rfl,fun o ho=>ho⟩) (fun n m i h1 k h2 hi=>k.box i hi) (fun n m i u h1 k h2 hi hu hf=>?_)
   (fun n r j Φ hn hj=>⟨r,hn,hj,fun b cs ty v q1 q2 q3=>⟨cs,ty,q1,q2,q3⟩,fun m k=>k⟩)
  by_cases hin:i=h.nx
  ·subst hin
   simp only[upd_same,Option.some.injEq]at hu
   subst hu
   exact hμ hf n m h1 h2
  ·exact k.tok i u (by simpa [upd,hin] using hi) (by simpa [upd,hin] using hu) hf
theorem WInv.dropTok{Γ:Ctx}{h:Hp}{e:Env}(hw:WInv Γ h e)(k:Nat):WInv Γ { h with T:=upd h.T k none } e:=by
 constructor
 ·exact hw.g0
 ·exact hw.os
 ·exact hw.tape
 ·exact hw.output
 ·exact hw.grown
 ·exact hw.hB
 ·exact hw.old
 ·exact hw.sdom
 ·exact hw.s0
 ·exact hw.s0B
 ·exact hw.keep
 ·exact hw.box
 ·exact hw.inj
 ·intro m ty hm
  by_cases hmk:m=k
  ·subst hmk; simp at hm
  ·simp only[upd,hmk,if_false]at hm; exact hw.tok m ty hm
 ·intro m m' v u b hm hm'
  have h1:h.T m≠none:=by intro h0; apply hm; simp[upd,h0]
  have h2:h.T m'≠none:=by intro h0; apply hm'; simp[upd,h0]
  exact hw.tokinj m m' v u b h1 h2
 ·intro n hn
  obtain⟨g1,g2,g3,g4,g5⟩:=hw.fresh n hn
  exact⟨g1,by simp[upd,g2],g3,g4,g5⟩
 ·exact hw.nx0
 ·exact hw.rt
 ·exact hw.ext.of (fun _ k=>k) (Nat.le_refl _) (fun n m h1 h2=>⟨h1,h2⟩) (fun n m h1 k h2=>⟨rfl,fun o ho=>ho⟩) (fun n m i h1 k h2 hi=>k.box i hi)
   (fun n m i v h1 q h2 hi=>q.tok i v (fun h0=>hi (by simp[upd,h0])))
   (fun m r j Φ hn hj=>⟨r,hn,hj,fun b cs ty v q1 q2 q3=>⟨cs,ty,q1,q2,q3⟩,fun m k=>k⟩)
theorem WInv.setBox{Γ:Ctx}{h:Hp}{e:Env}(hw:WInv Γ h e){n:Nat}{row row':List C}{b:Nat}{cs:Array Value}{ty:TypeId}{vs:List Value}
  (hn:h.H n=some row) (hρ:e.ρ n=some b) (hb:e.w.heap[b]? = some (.cells cs ty (0,0))) (hr:RB e n row' vs) (hl:vs.length=cs.size) (hnb:JcF row=true) (hrp:rowP row'=true→rowP row=true)
  (hkc:∀ (j:Nat) (Φ:KP),row'[j]? = some (C.kc Φ)→row[j]? = some (C.kc Φ)∧vs[j]? = cs[j]?) :
  WInv Γ { h with H:=upd h.H n (some row') } { e with w:=e.w.setRow b vs.toArray }∧e.le { e with w:=e.w.setRow b vs.toArray }:=by
 obtain⟨b0,cs0,ty0,q1,q2,q3,q4,q5⟩:=hw.boxAt hρ row hn hnb
 rw[hρ]at q1
 simp at q1
 subst q1
 rw[hb]at q2
 simp at q2
 obtain⟨rfl,rfl⟩:=q2
 have hτ:rowP row=true→e.τ n=some (tyV ty):=fun hp=>by
  obtain⟨ob,o1,o2,_⟩:=hw.boxAny hρ row hn
  rw[hb]at o1; cases o1
  exact o2.ty hp
 have hS:∀ o x,e.w.cell? ⟨b,o,none⟩=some x→e.S b o:=fun o x hx=>by
  have:cs[o]? = some x:=by simpa [World.cell?,hb] using hx
  exact q4 o (Array.getElem?_eq_some_iff.1 this).1
 have hle:e.le { e with w:=e.w.setRow b vs.toArray }:=⟨Keep.mk fun c o hc hs=>by
  have hne:c≠b:=fun he=>by
   subst he
   rcases hc with⟨x,hc⟩|⟨_,es,k,hc⟩
   ·exact hs (hS o x hc)
   ·rw[hb]at hc; cases hc
  exact⟨setRow_other _ _ _ _ hne,hs⟩,fun _ _ h=>h,fun _ _ h=>h⟩
 refine⟨?_,hle⟩
 constructor
 ·exact hw.g0
 ·exact hw.os
 ·exact hw.tape
 ·exact hw.output
 ·simpa using hw.grown
 ·simpa using hw.hB
 ·intro c hc hm
  have hne:c≠b:=fun he=>by
   subst he
   rcases q5 with h | h
   ·omega
   ·exact hm h
  exact(setRow_other _ _ _ _ hne).trans (hw.old c hc hm)
 ·intro c o hc; simpa using hw.sdom c o hc
 ·exact hw.s0
 ·exact hw.s0B
 ·exact hw.keep.trans hle.keep
 ·intro m r hmr
  by_cases hmn:m=n
  ·subst hmn
   simp only[upd_same,Option.some.injEq]at hmr
   subst hmr
   refine .inr ⟨b,_,hρ,setRow_heap _ _ _ _ _ _ hb,RO.of (RB.mono hle (by simpa using hr)) (fun hp=>hτ (hrp hp)),fun o ho=>q4 o (by simp[JcE]at ho; omega),q5⟩
  ·simp only[upd,hmn,if_false]at hmr
   rcases hw.box m r hmr with hz | ⟨b',ob,h1,h2,h3,h4,h5⟩
   ·exact .inl hz
   have hne:b'≠b:=fun he=>by
    subst he
    exact hmn (hw.inj m n b' (by simp[hmr]) (by simp[hn]) h1 hρ)
   exact .inr ⟨b',ob,h1,(setRow_other _ _ _ _ hne).trans h2,RO.mono hle h3,h4,h5⟩
 ·intro m m' c hm hm'
  have g:∀ i,upd h.H n (some row') i≠none→h.H i≠none:=fun i hi=>by
   by_cases hin:i=n
   ·subst hin; simp[hn]
   ·simpa [upd,hin] using hi
  exact hw.inj m m' c (g m hm) (g m' hm')
 ·intro k ty' hk
  obtain⟨h0,v,h1,hor⟩:=hw.tok k ty' hk
  refine⟨h0,v,h1,hor.imp id ?_⟩
  rintro ⟨sz,m,xs,hsz,h2,h3,h4⟩
  have hne:∀ c,v.ownBlock=some c→c≠b:=fun c hc he=>by
   subst he
   exact h4 c hc n (by simp[hn]) hρ
  refine⟨sz,m,xs,hsz,⟨Jaj h2.1 (fun c hc=>setRow_other _ _ _ _ (hne c hc)),h2.2⟩,fun c o hc ho hs=>?_,fun c hc i hi=>?_⟩
  ·have hce:(e.w.setRow b vs.toArray).cell? ⟨c,o,none⟩=e.w.cell? ⟨c,o,none⟩:=World.cell?_of_block (setRow_other _ _ _ _ (hne c hc))
   exact h3 c o hc ho (by rw[← hce]; exact hs)
  ·have:h.H i≠none:=by
    by_cases hin:i=n
    ·subst hin; simp[hn]
    ·simpa [upd,hin] using hi
   exact h4 c hc i this
 ·exact hw.tokinj
 ·intro m hm
  obtain⟨g1,g2,g3,g4,g5⟩:=hw.fresh m hm
  refine⟨?_,g2,g3,g4,g5⟩
  have:m≠n:=fun he=>by rw[he,hn]at g1; cases g1
  simp[upd,this,g1]
 ·exact hw.nx0
 ·exact hw.rt
 ·have gH:∀ i,upd h.H n (some row') i≠none→h.H i≠none:=fun i hi=>by
   by_cases hin:i=n
   ·subst hin; simp[hn]
   ·simpa [upd,hin] using hi
  have hnn:h.H n≠none:=by simp[hn]
  refine hw.ext.of (fun _ k=>k) (by simp) (fun i m h1 h2=>⟨gH i h1,h2⟩) (fun i m h1 k h2=>⟨setRow_other _ _ _ _ (fun he=>k.box n hnn (by rw[hρ,he])),fun o ho=>ho⟩)
   (fun i m l h1 k h2 hi=>k.box l (gH l hi)) (fun i m l v h1 k h2 hi=>k.tok l v hi) (fun i r j Φ hi hj=>?_)
  by_cases hin:i=n
  ·subst hin
   simp only[upd_same,Option.some.injEq]at hi
   subst hi
   obtain⟨k1,k2⟩:=hkc j Φ hj
   refine⟨row,hn,k1,fun b' cs' ty' v q1 q2 q3=>⟨vs.toArray,ty,q1,?_,?_⟩,fun m k=>k⟩
   ·rw[hρ]at q1; cases q1
    exact setRow_heap _ _ _ _ _ _ hb
   ·rw[hρ]at q1; cases q1
    rw[hb]at q2; cases q2
    simpa [k2] using q3
  ·have hi':h.H i=some r:=by simpa [upd,hin] using hi
   refine⟨r,hi',hj,fun b' cs' ty' v q1 q2 q3=>⟨cs',ty',q1,?_,q3⟩,fun m k=>k⟩
   have hne:b'≠b:=fun he=>hin (hw.inj i n b (by simp[hi']) hnn (he ▸ q1) hρ)
   exact(setRow_other _ _ _ _ hne).trans q2
end Go.Proofs.Ytaofbminodhcnaa
