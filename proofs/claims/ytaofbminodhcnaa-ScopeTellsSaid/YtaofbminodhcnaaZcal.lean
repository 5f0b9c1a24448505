/- Operations of regions that are walked by hand,one by one. -/
import Derived.Test.YtaofbminodhcnaaZcae
import Derived.Test.YtaofbminodhcnaaZcaj
set_option linter.unusedVariables false
set_option linter.unusedSimpArgs false
namespace Go.Proofs.Ytaofbminodhcnaa
open Go.RowKit Go.Maps
section
variable {P:Program} {a:Act} {w:World} {o:Oper}
theorem Jw{x:Operand}{v:Value}(h:o.op=.move x)(hx:a.eval x=v):(execOp a.eval o).run P w=.ok (.value v) w:=by simp[execOp,h,hx]
theorem Ve{x:Operand}{v:Value}(h:o.op=.assign x)(hx:a.eval x=v):(execOp a.eval o).run P w=.ok (.value v) w:=by simp[execOp,h,hx]
theorem JaW{x:Operand}{q:Addr}(h:o.op=.nilCheck x)(hx:a.eval x=.pointer (some q)):(execOp a.eval o).run P w=.ok (.value (.pointer (some q))) w:=by simp[execOp,h,hx]
theorem Vc{s:TypeId}{f:Nat}{x:Operand}{b i:Nat}(h:o.op=.fieldAddr s x f)(ht:JI P s f=true)(hx:a.eval x=.pointer (some ⟨b,i,none⟩)):(execOp a.eval o).run P w=.ok (.value (.pointer (some ⟨b,i+tOff P s f,none⟩))) w:=by
 simp[execOp,h,hx,Jfv ht b i w]
theorem VN{t:TypeId}{x:Operand}{b i:Nat}{v:Value}(h:o.op=.load t x)(ht:JQ P t=true)(hag:tAgg P t=false)(hx:a.eval x=.pointer (some ⟨b,i,none⟩))(hc:w.cell? ⟨b,i,none⟩=some v):(execOp a.eval o).run P w=.ok (.value v) w:=by
 have hi:=JfM P t w ht
 rw[hag]at hi
 simp[execOp,h,hx,Instr.loadAt,Instr.sureAddr,loadVar,hi,hc]
theorem Jo0{t:TypeId}{x:Operand}{q:Option Addr}{n c:Nat}(h:o.op=.call { callee:=.builtin .len,args:=#[x],argTypes:=#[t] })(ht:JU P t=true)(hx:a.eval x=.slice q n c):(execOp a.eval o).run P w=.ok (.value (.int .i64 n)) w:=by
 unfold JU at ht
 split at ht
 ·rename_i el hu
  simp[execOp,h,hx,resolve,invoke,builtin,Builtin.len_,run_underlying hu,goInt]
 ·simp at ht
theorem JlG{x:Operand}{n:Nat}{t t':TypeId}(h:o.op=.binOp .sub t x (.const (.int .i64 1)) t')(hx:a.eval x=.int .i64 n)(hn:n≤maxLen):(execOp a.eval o).run P w=.ok (.value (.int .i64 ((n:Int)-1))) w:=by
 have:=Jp4 P .sub t x (.const (.int .i64 1)) (.int .i64 n) (.int .i64 1) w (by simp[abin])
 have hw:IntKind.i64.wrap ((n:Int)-1)=(n:Int)-1:=by
  unfold maxLen at hn
  simp[IntKind.wrap,IntKind.signed,IntKind.bits]
  omega
 simp only[execOp,h,hx]
 rw[Sem.run_bind]
 have e:a.eval (.const (.int .i64 1))=.int .i64 1:=rfl
 rw[e,this]
 simp[abin,hw]
theorem JpB{t el:TypeId}{x ix:Operand}{b n c:Nat}{i:Int}(h:o.op=.indexAddr t x ix)(hu:P.underlying t=some (.slice el))(hs:JQ P el=true)(hx:a.eval x=.slice (some ⟨b,0,none⟩) n c)(hi:a.eval ix=.int .i64 i)(h0:0≤i)(hn:i<n):
  (execOp a.eval o).run P w=.ok (.value (.pointer (some ⟨b,i.toNat * Jo P el,none⟩))) w:=by
 have hs:=J6 P el w hs
 simp only[execOp,h,hx,hi,Instr.indexAt,asIntOf,Sem.run_bind,Sem.run_pure,Result.andThen_ok,run_underlying hu,h0,true_and,hs]
 rw[Sem.run_ite,if_pos (by omega)]
 by_cases h0':i.toNat * Jo P el=0 <;> simp[Sem.run_bind,hs,Addr.add,h0']
theorem K4{x:Operand}{i:Nat}{l:Array Value}{v:Value}(h:o.op=.extract x i)(hx:a.eval x=.tuple l)(hv:l[i]? = some v):(execOp a.eval o).run P w=.ok (.value v) w:=by
 simp[execOp,h,hx,Instr.extract,hv]
theorem Jvq{t el:TypeId}{x hi:Operand}{b n c:Nat}{k:Int}(h:o.op=.slice t x none (some hi) none)(hu:P.underlying t=some (.slice el))(hx:a.eval x=.slice (some ⟨b,0,none⟩) n c)(hh:a.eval hi=.int .i64 k)(h0:0≤k)(hk:k≤c)(hs:JQ P el=true)(hc:0<c):
  (execOp a.eval o).run P w=.ok (.value (.slice (some ⟨b,0,none⟩) k.toNat c)) w:=by
 have hs:=J6 P el w hs
 have hb:(Instr.sliceBounds true n c none (some (.int .i64 k)) none).run P w=.ok (0,k.toNat,c) w:=by
  simp[Instr.sliceBounds,Instr.sliceBound,asIntOf,h0]
  omega
 simp[execOp,h,hx,hh,Instr.sliceAt,Instr.slice,run_underlying hu,hb,hs,Addr.add]
theorem JqZ{t k e:TypeId}{x y:Operand}{b n:Nat}{D:DataW Unit}{kl:Lit}{z:Value}{zd:DataW Unit}{zp:List MemPlace}(h:o.op=.lookup t x y true)(K:Keyed P k)(ht:P.underlying t=some (.map k e))(hz:(zeroValue e).run P w=.ok z w)(hzd:anyE z=some (zd,zp))
  (hown:w.ownsMap P k anyE b n D) (hx:a.eval x=.map (some b)) (hkey:keyOf P k (a.eval y)=some kl):∃ v ps,(execOp a.eval o).run P w=.ok (.value (.tuple #[v,.bool (has D kl)])) w∧anyE v=some (D.atKey kl zd,ps):=by
 obtain⟨v,ps,hrun,hv⟩:=hown.look_ok K ht hz hzd hkey
 exact⟨v,ps,by simp[execOp,h,hx,hrun],hv⟩
theorem Jgt{t k e:TypeId}{x y z:Operand}{b n:Nat}{D:DataW Unit}{kl:Lit}{d:DataW Unit}{ps:List MemPlace}(h:o.op=.mapUpdate t x y z)(K:Keyed P k)(ht:P.underlying t=some (.map k e))(hn:n<maxLen)
  (hown:w.ownsMap P k anyE b n D) (hx:a.eval x=.map (some b)) (hkey:keyOf P k (a.eval y)=some kl) (hv:anyE (a.eval z)=some (d,ps)) :
  ∃ w',(execOp a.eval o).run P w=.ok .skip w'∧w'.ownsMap P k anyE b (n+1) (D.put kl d)∧w.grownBy w' (some b):=by
 obtain⟨w',hrun,h1,h2⟩:=hown.update K ht hn hkey hv
 exact⟨w',by simp[execOp,h,hx,hrun],h1,h2⟩
def Only(b:Nat)(w w':World):Prop:=w'.os=w.os∧w'.tape=w.tape∧w'.output=w.output∧w'.heap.size=w.heap.size∧∀ j,j≠b→w'.heap[j]? = w.heap[j]?
theorem Only.setRow(w:World)(b:Nat)(cs:Array Value):Only b w (w.setRow b cs):=⟨rfl,rfl,rfl,by simp[World.setRow],fun _ h=>setRow_other _ _ _ _ h⟩
theorem JpP{t:TypeId}{x y:Operand}{b i:Nat}{ty:TypeId}{cs:Array Value}(h:o.op=.store t x y)(ht:JQ P t=true)(h1:Jo P t=1)(hx:a.eval x=.pointer (some ⟨b,i,none⟩))(hc:w.heap[b]? = some (.cells cs ty (0,0)))(hi:i<cs.size)
  (hy:(a.eval y).cells=#[a.eval y]) (hone:Value.oneCell' (a.eval y)=true):∃ cs',(execOp a.eval o).run P w=.ok .skip (w.setRow b cs')∧cs'.toList=cs.toList.set i (a.eval y):=by
 have hs:=J6 P t w ht
 rw[h1]at hs
 have hsc:=run_storeCells_at P b i ty [a.eval y] 0 cs w hc (by simp; omega) (by simpa using hone)
 simp only[Nat.add_zero]at hsc
 refine⟨(cs.toList.take i++[a.eval y]++cs.toList.drop (i + [a.eval y].length)).toArray,by simp only[execOp,h,hx,Instr.storeAt,Instr.sureAddr,storeVar,Sem.run_bind,Sem.run_pure,Result.andThen_ok,hs,hy,ne_eq,not_true_eq_false,if_false]; rw[if_neg (by simp),hsc]; rfl,?_⟩
 rw[List.set_eq_take_append_cons_drop,if_pos (by simpa using hi)]
 simp
theorem Jfh{t:TypeId}(h:o.op=.makeMap t none):(execOp a.eval o).run P w=.ok (.value (.map (some w.heap.size))) (w.alloc (.map #[] 0)):=by
 simp[execOp,h,run_makeMap]
theorem Jrb{t el:TypeId}{x:Operand}{z v:Value}(h:o.op=.buildSlice t 1 #[(0,x)])(hu:P.underlying t=some (.slice el))(hs:(sizeOf el).run P w=.ok 1 w)(hz:(zeroValue el).run P w=.ok z w)(hx:a.eval x=v)(hv:v.cells=#[v]):
  (execOp a.eval o).run P w=.ok (.value (.slice (some ⟨w.heap.size,0,none⟩) 1 1)) (w.alloc (.cells #[v] el)):=by
 have hf:Instr.fill (fun i=>some (i * 1,1)) ((Array.range (1 * 1)).map (z.cells[· % z.cells.size]!)) [(0,v)]=some #[v]:=by
  obtain⟨out,f1,f2⟩:=JkH 1 [(0,v)] 0 ((Array.range (1 * 1)).map (z.cells[· % z.cells.size]!)) (fun i p hi=>by
   cases i with
   | zero=>simp at hi; subst hi; exact⟨rfl,by rw[hv]; rfl⟩
   | succ i=>simp at hi) (by simp)
  rw[f1]
  congr 1
  apply Array.ext'
  rw[f2]
  simp[hv]
 have:=Jhr (P:=P) (w:=w) (t:=t) (el:=el) (len:=1) (sz:=1) (z:=z) (parts:=#[(0,v)]) (out:=#[v]) hu hs hz (by decide) hf
 simp[execOp,h,hx,this]
theorem JsU{t e:TypeId}{x y:Operand}{i:TypeInfo}{z v:Value}{g n cap q c:Nat}{cur:Array Value}(h:o.op=.call { callee:=.builtin .append,args:=#[x,y],argTypes:=#[t,t] })(ht:P.underlying t=some (.slice e))(hi:P.info? e=some i)(hz:i.zero=some z)(h1:i.size=1)
  (hb:i.bytes≤8) (hzc:z.cells.size=1) (hx:a.eval x=.slice (some ⟨g,0,none⟩) n cap) (hy:a.eval y=.slice (some ⟨q,0,none⟩) 1 c) (hg:w.heap[g]? = some (.cells cur e (0,0))) (hcs:cur.size=cap) (hn:n≤cap) (hmx:cap≤maxLen) (hq:w.cell? ⟨q,0,none⟩=some v) (hv:v.oneCell'=true)
  (hfit:n<17592186044416) :
  ∃ g' cap' cur' w',(execOp a.eval o).run P w=.ok (.value (.slice (some ⟨g',0,none⟩) (n+1) cap')) w'∧(g'=g∨g'=w.heap.size)∧w'.heap[g']? = some (.cells cur' e (0,0))∧cur'.size=cap'∧n+1≤cap'∧cap'≤maxLen ∧
   cur'.toList.take (n+1)=cur.toList.take n++[v]∧(∀ j,j<w.heap.size→j≠g→w'.heap[j]? = w.heap[j]?)∧w.heap.size≤w'.heap.size∧(∀ j,w.heap.size≤j→j<w'.heap.size→j=g')∧g'<w'.heap.size∧w'.os=w.os∧w'.tape=w.tape∧w'.output=w.output∧(g'=g→cap'=cap)∧(g'≠g→w'.heap[g]? = w.heap[g]?):=by
 have hglt:=(Array.getElem?_eq_some_iff.1 hg).1
 have hnews:∀ j u,[v][j]? = some u→w.cell? ((⟨q,0,none⟩:Addr).add j)=some u:=fun j u hj=>by
  cases j with
  | zero=>simp at hj; subst hj; simpa [Addr.add] using hq
  | succ j=>simp at hj
 have hex:∀ (r:Value) (w':World),(Builtin.append_ #[t,t] o.type #[.slice (some ⟨g,0,none⟩) n cap,.slice (some ⟨q,0,none⟩) 1 c]).run P w=.ok r w'→(execOp a.eval o).run P w=.ok (.value r) w':=fun r w' hr=>by
  simp[execOp,h,hx,hy,resolve,invoke,builtin,hr]
 rcases Nat.lt_or_ge n cap with hlt | hge
 ·have hr:=JfR (P:=P) (w:=w) t o.type e e i ht hi g n cap cur hg ⟨q,0,none⟩ 1 c [v] (by simp[h1]) hnews (by simpa using hv) (by omega) (by simp[h1]; omega)
  refine⟨g,cap,_,_,hex _ _ hr,.inl rfl,setRow_heap _ _ _ _ _ _ hg,?_,by omega,hmx,?_,fun j _ hj=>setRow_other _ _ _ _ hj,by simp[World.setRow],fun j h1 h2=>by simp[World.setRow]at h2; omega,by simpa [World.setRow] using hglt,rfl,rfl,rfl,fun _=>rfl,fun h=>absurd rfl h⟩
  ·simp[h1]; omega
  ·have e1:(cur.toList.take n).length=n:=by simp; omega
   simp only[h1,Nat.mul_one,List.append_assoc]
   rw[List.take_append,e1,List.take_of_length_le (by omega),show n+1-n=1 by omega]
   rfl
 ·have hnc:n=cap:=by omega
  subst hnc
  have hr:=run_append_grow (P:=P) (w:=w) t o.type e i z ht hi hz ⟨g,0,none⟩ n n cur.toList (by simp[hcs,h1]) (fun j u hj=>by
   have hjl:=(List.getElem?_eq_some_iff.1 hj).1
   simp only[Addr.add]
   split
   ·rename_i h0; subst h0; simpa [World.cell?,hg] using hj
   ·simpa [World.cell?,hg] using hj) ⟨q,0,none⟩ 1 c [v] (by simp[h1]) hnews (by omega) (by omega) (growslice_fits (by omega) (by
    have:(n+1) * i.bytes≤17592186044416 * 8:=Nat.mul_le_mul (by omega) hb
    omega))
  have hge:=grownCap_ge w (n+1) n e
  have hmxl:=grownCap_le_maxLen w (n+1) n e (by unfold maxLen; omega)
  have hnew:(w.drew.alloc (.cells (cur.toList.toArray++[v].toArray++Builtin.zeroCells z.cells (grownCap w (n+1) n e-(n+1))) e)).heap[w.heap.size]? = some (.cells (cur.toList.toArray++[v].toArray++Builtin.zeroCells z.cells (grownCap w (n+1) n e-(n+1))) e (0,0)):=heap_alloc_new w.drew _
  refine⟨w.heap.size,grownCap w (n+1) n e,_,_,hex _ _ hr,.inr rfl,hnew,?_,by omega,hmxl,?_,fun j hj _=>heap_alloc_old w.drew _ hj,by simp[World.alloc],fun j h1 h2=>by simp[World.alloc]at h2; omega,by simp[World.alloc],rfl,rfl,rfl,fun h=>by omega,fun _=>heap_alloc_old w.drew _ hglt⟩
  ·simp only[Array.toArray_toList,Array.size_append,size_zeroCells,hzc,hcs,List.size_toArray,List.length_cons,List.length_nil]
   omega
  ·have e1:cur.toList.take n=cur.toList:=List.take_of_length_le (by simp[hcs])
   rw[e1,Array.toList_append,List.take_append_of_le_length (by simp[hcs])]
   rw[List.take_of_length_le (by simp[hcs])]
   simp
theorem Je{ops:Array Oper}{Q:Exit→Act→World→Prop}{rest:List Oper}{M:List (Nat×Value)}{d:Nat}{v:Value}{w':World}(hg:o.guard=none)(hd:o.dst=some d)(hrun:(execOp (Ji a M).eval o).run P w=.ok (.value v) w')
  (h:wpList P ops Q rest (Ji a ((d,v)::M)) w'):wpList P ops Q (o::rest) (Ji a M) w :=
 wpList_plain hg fun _ hK=>KT hrun (hK _ _ (by rw[hd]; exact h))
theorem Za{ops:Array Oper}{Q:Exit→Act→World→Prop}{rest:List Oper}{M:List (Nat×Value)}{w':World}(hg:o.guard=none)(hd:o.dst=none)(hrun:(execOp (Ji a M).eval o).run P w=.ok .skip w')
  (h:wpList P ops Q rest (Ji a M) w'):wpList P ops Q (o::rest) (Ji a M) w :=
 wpList_plain hg fun _ hK=>JcR hrun (hK _ _ (by rw[hd]; exact h))
theorem Jd{M:List (Nat×Value)}{nt i:Nat}(hsz:a.tmps.size=nt)(hlt:(M.all fun p=>decide (p.1<nt))=true):(Ji a M).eval (.tmp i)=(lkv M i).getD (a.eval (.tmp i)):=by
 have:=JfK a i M fun p hp=>by
  rw[hsz]
  simpa using List.all_eq_true.1 hlt p hp
 simp only[Act.eval]
 rw[this]
 cases lkv M i <;> rfl
end
def shO(o:Oper):Op×Option Tmp×Option (Nat×Bool):=(o.op,o.dst,o.guard)
theorem Jlk:∀ (l:List Nat) (σ:Nat→AV) (i:Nat),i∉l→fgt l σ i=σ i
 | [],_,_,_=>rfl
 | d::l,σ,i,h=>by
  simp only[List.mem_cons,not_or]at h
  rw[fgt,JbW _ _ _ _ h.1,Jlk l σ i h.2]
theorem JkS:∀ (l:List Nat) (σ:Nat→AV) (i:Nat),i∈l→fgt l σ i=.c .top
 | d::l,σ,i,h=>by
  by_cases e:i=d
  ·subst e; simp[fgt]
  ·rw[fgt,JbW _ _ _ _ e]
   exact JkS l σ i ((List.mem_cons.1 h).resolve_left e)
theorem JpO:∀ {L:List (Nat×Value)} {i:Nat},i∉L.map Prod.fst→lkv L i=none
 | [],_,_=>rfl
 | (d,v)::l,i,h=>by
  simp only[List.map_cons,List.mem_cons,not_or]at h
  rw[lkv,if_neg h.1]
  exact JpO h.2
theorem Vi{nt:Nat}{ds:List Deferred}{σ:Nat→AV}{a:Act}{e e':Env}(hs:Jz nt ds σ a e)(hl:e.le e')(M:List (Nat×Value))(l:List Nat)(hsub:∀ i,i∈M.map Prod.fst→i∈l)(hlt:(l.all fun i=>decide (i<nt))=true):
  Jz nt ds (fgt l σ) (Ji a M) e':=by
 have hl2:∀ p∈M,p.1<a.tmps.size:=fun p hp=>by
  rw[hs.1]
  simpa using List.all_eq_true.1 hlt p.1 (hsub _ (List.mem_map.2 ⟨p,hp,rfl⟩))
 refine⟨(VX a M).trans hs.1,⟨?_,hs.2.1.2⟩,fun i hi=>?_⟩
 ·rw[Jf3,Jlk]
  ·exact hs.2.1.1.mono hl
  ·intro hm
   have:=List.all_eq_true.1 hlt _ hm
   have h3:=hs.2.1.2
   simp at this
   omega
 ·by_cases h:i∈l
  ·rw[JkS _ _ _ h]; trivial
  ·rw[Jlk _ _ _ h,JfK a i M hl2,JpO (fun hm=>h (hsub _ hm))]
   exact(hs.2.2 i hi).mono hl
theorem Ja7{nt:Nat}{ds:List Deferred}{σ:Nat→AV}{a:Act}{e:Env}(hs:Jz nt ds σ a e){d:Nat}{x:AV}(hd:d<nt)(h:RA e x (a.eval (.tmp d))):Jz nt ds (upd σ d x) a e:=by
 refine⟨hs.1,⟨?_,hs.2.1.2⟩,fun i hi=>?_⟩
 ·have h3:=hs.2.1.2
  rw[JbW _ _ _ _ (by omega)]
  exact hs.2.1.1
 ·by_cases e:i=d
  ·subst e; rw[upd_same]; exact h
  ·rw[JbW _ _ _ _ e]; exact hs.2.2 i hi
theorem Jn{l:List Oper}{x:Op×Option Tmp×Option (Nat×Bool)}{S:List (Op×Option Tmp×Option (Nat×Bool))}(h:l.map shO=x::S):∃ o r,l=o::r∧o.op=x.1∧o.dst=x.2.1∧o.guard=x.2.2∧r.map shO=S:=by
 obtain⟨o,r,h1,h2,h3⟩:=List.map_eq_cons_iff.1 h
 subst h2
 exact⟨o,r,h1,rfl,rfl,rfl,h3⟩
def JfQ(P:Program)(a:Act)(w:World):List (Op×Option Tmp×Option (Nat×Bool))→List (Nat×Value)→Prop
 | s::r,p::l=>(∀ o:Oper,o.op=s.1→(execOp a.eval o).run P w=.ok (.value p.2) w)∧JfQ P a w r l
 | _,_=>True
theorem JfQ.get{P:Program}{a:Act}{w:World}:∀ {S:List (Op×Option Tmp×Option (Nat×Bool))} {L:List (Nat×Value)} {i:Nat} {x:Op×Option Tmp×Option (Nat×Bool)} {p:Nat×Value},JfQ P a w S L→S[i]? = some x→L[i]? = some p→∀ o:Oper,o.op=x.1→(execOp a.eval o).run P w=.ok (.value p.2) w
 | s::r,q::l,0,x,p,h,hs,hp=>by
  simp at hs hp; subst hs; subst hp; exact h.1
 | s::r,q::l,i+1,x,p,h,hs,hp=>by
  simp at hs hp; exact JfQ.get h.2 hs hp
 | [],_,_,_,_,_,hs,_=>by simp at hs
 | _::_,[],_,_,_,_,_,hp=>by simp at hp
theorem Jf2{P:Program}{ops:Array Oper}{Q:Exit→Act→World→Prop}{id:Nat}{a:Act}{w:World}(S:List (Op×Option Tmp×Option (Nat×Bool)))(lop:Op)(ld:Option Tmp)(L:List (Nat×Value))(nt:Nat)(hsz:a.tmps.size=nt)(hm:P.follows .mixedOrders=true)(hops:ops.toList.map shO=S++[(lop,ld,none)])
  (hS:S.map (·.2.1)=L.map fun p=>some p.1) (hnd:(L.map Prod.fst).Nodup) (hlt:(L.all fun p=>decide (p.1<nt))=true) (chk:chkR ops L.length=true)
  (hrun:JfQ P (Ji a L) w.drew S L) (hlast:∀ o:Oper,o.op=lop→o.dst=ld→o.wp P (Ji a L) w.drew (Q .normal) Q):(Code.region id ops true).wp P Q a w:=by
 have hlen:S.length=L.length:=by have:=congrArg List.length hS; simpa using this
 have hsz2:ops.size=L.length+1:=by
  have:=congrArg List.length hops
  simpa [hlen] using this
 have hd:ops.toList.map (·.dst)=L.map (fun p=>some p.1)++[ld]:=by
  have:=congrArg (List.map fun x:Op×Option Tmp×Option (Nat×Bool)=>x.2.1) hops
  rw[List.map_map,List.map_append,hS]at this
  exact this
 refine JtY L hm hsz2 ⟨_,hd⟩ hnd (fun p hp=>?_) chk (fun i o p hp ho=>?_) (fun o ho=>?_)
 ·rw[hsz]; simpa using List.all_eq_true.1 hlt p hp
 ·have hil:=(List.getElem?_eq_some_iff.1 hp).1
  have h1:(ops.toList.map shO)[i]? = some (shO o):=by simp[ho]
  rw[hops,List.getElem?_append_left (by omega)]at h1
  exact hrun.get h1 hp o rfl
 ·have h1:(ops.toList.map shO)[L.length]? = some (shO o):=by simp[ho]
  rw[hops,List.getElem?_append_right (by omega),hlen]at h1
  simp only[Nat.sub_self,List.getElem?_cons_zero,Option.some.injEq]at h1
  exact hlast o (congrArg Prod.fst h1).symm (congrArg (fun x=>x.2.1) h1).symm
theorem Jsc{P:Program}{ops:Array Oper}{Q:Exit→Act→World→Prop}{id:Nat}{a:Act}{w:World}(S:List (Op×Option Tmp×Option (Nat×Bool)))(lop:Op)(L:List (Nat×Value))(nt:Nat)(hsz:a.tmps.size=nt)(hm:P.follows .mixedOrders=true)(hops:ops.toList.map shO=S++[(lop,none,none)])
  (hS:S.map (·.2.1)=L.map fun p=>some p.1) (hnd:(L.map Prod.fst).Nodup) (hlt:(L.all fun p=>decide (p.1<nt))=true) (chk:chkR ops L.length=true)
  (hrun:JfQ P (Ji a L) w.drew S L) (hlast:∀ o:Oper,o.op=lop→∃ w',(execOp (Ji a L).eval o).run P w.drew=.ok .skip w'∧Q .normal (Ji a L) w'):(Code.region id ops true).wp P Q a w :=
 Jf2 S lop none L nt hsz hm hops hS hnd hlt chk hrun fun o h1 h2=>by
  obtain⟨w',g1,g2⟩:=hlast o h1
  exact JcR g1 (by rw[h2]; exact g2)
theorem JqI{t:Tab}{pure:Nat→Nat}(ht:TabOk t)(hm:t.P.follows .mixedOrders=true)(hpure:∀ n,pure n=0→(t.Φ n).isSome)(hnp:∀ n,pure n=1→∀ g,t.G n g→∃ val bs ts,g.out=.ret val bs ts){f:Nat}{fn:Func}{c:Code}(hf:t.P.funcs[f]? = some fn)(hb:fn.body=some c)
  (hcode:(KY pure t.lk fn.ntmps c && fn.results.toList.all (Jag fn.ntmps) && fn.ntmps.ble DS)=true) (g:GI) (hrt:t.rt=g.bs.length) (hl:g.args.length≤fn.ntmps)
  (h:SemC t c (sig0 g.args) (hpL g.bs g.ts) (Jfw t fn g.bs.length g.out)):Jx t.P f g:=by
 simp only[Bool.and_eq_true]at hcode
 intro e vs hw hcan hargs
 refine calls_of_wp_defers hf hb ?_
 let Γ:Ctx:={ ctxG t.P g.bs.length g.ts.length e with nt:=fn.ntmps }
 have hwΓ:WInv Γ (hpL g.bs g.ts) e:=hw.reCtx rfl rfl rfl rfl rfl rfl
 have hroot:Γ.root.length=g.bs.length:=by simp[Γ,ctxG]
 refine Code.wp_mono (fun ex a w1 ⟨σ1,h1,e1,hk,hew,hs1,hw1⟩=>?_) (h.2 Γ pure _ e ht rfl (by rw[hroot,hrt]) hm hpure hnp hcode.1.1 (Jpc hargs hl (Nat.le_of_ble_eq_true hcode.2)) hwΓ)
 subst hew
 obtain⟨σ,h,hwk,hk⟩:=hk
 obtain⟨e',he',hs',hw'⟩:=hwk Γ a e1 hroot hs1 hw1
 rw[← he']
 have fin:∀ u,QL t fn.results.toList g.bs.length g.out (dfL (σ DS)) u σ h→Leaves t.P fn a.tmps (JoH t.P e g.bs.length g.ts.length g.out) a.defers (Jd0 u) e'.w:=fun u hq=>by
  obtain⟨r,h1,h2⟩:=hs'.2.1.1
  have h1:a.defers=r:=by simpa [Γ,ctxG] using h1
  rw[h1]
  exact Jkk (Γ:=Γ) ht rfl hroot (fun bs ts e' hw=>hw.reCtx rfl rfl rfl rfl rfl rfl) hcode.1.2 _ u σ h a e' r hq h2 hs'.2.2 hw'
 cases ex with
 | normal=>exact fin none hk
 | ret=>exact fin none hk
 | exit id=>exact hk.elim
 | goto l=>exact hk.elim
 | panic ch =>
  obtain⟨v,rfl,hk⟩:=hk
  exact fin (some v) hk
 | outgrown=>exact hk.elim
end Go.Proofs.Ytaofbminodhcnaa
