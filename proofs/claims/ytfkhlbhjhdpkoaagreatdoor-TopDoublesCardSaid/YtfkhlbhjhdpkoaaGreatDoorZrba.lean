/- From a function of data to a tied card: what the listed variables hold. -/
import Derived.Test.YtfkhlbhjhdpkoaaGreatDoorZrau
import Derived.Test.YtfkhlbhjhdpkoaaGreatDoorCards
import Derived.Test.YtfkhlbhjhdpkoaaGreatDoorTie
import Derived.Shelf.Vars
import Derived.SizedLaws
import Derived.ProofKit
import Derived.OpenShut
import Derived.LaidMore
import Derived.Lay
import Derived.SevenTiedAt
import Derived.Stop.Joined
import Derived.MakeChecks
import Derived.Lib.LaidTab
set_option linter.unusedVariables false
set_option linter.unusedSimpArgs false
set_option maxRecDepth 100000
namespace Go.Proofs.YtfkhlbhjhdpkoaaGreatDoor
open Go.ChangeShapes Go.WideShapes Go.ChangeAt Go.RowKit
theorem own:ownKnob Tryz.prog.godebug=none:=by kernel_rfl
theorem Grows.below{w w':World}(h:Grows w w'):Below w.heap.size w w':=⟨h.os,h.tape,h.output,h.size,h.block⟩
theorem Jsx{H:Type}{enc:TypeId×Value→H}{P:Program}{f:Func}{s:ChangeSpec}{fresh handsOn again:Bool}{W W':World}{args:Array Value}{v:Value}{ds gs:List (DataW H)}{before pa pv:List MemPlace}
  (hW:DataW.Whole enc P f.params.toList s.vars false W args.toList ds gs before)
  (hres:∀ (b:Nat) (sp:Nat→Bool) (hd:Bool),DataW.TrodAll enc P W' b sp hd f.resultTypes.toList (v.resultList f.resultTypes.size) (s.fn H (ds++gs)).results [])
  (hargs:∀ sp:Nat→Bool,(∀ p∈before,sp p.block=true)→DataW.TrodAll enc P W' 0 sp true f.params.toList args.toList (s.fn H (ds++gs)).args pa)
  (hvars:∀ sp:Nat→Bool,(∀ p∈before,sp p.block=true)→DataW.TrodVars enc P W' sp s.vars (s.fn H (ds++gs)).vars pv)
  (hps:before=pa++pv) (hg:Grows W W')
  (hok:∀ (j:Nat) (t:TypeId) (r:Value),f.resultTypes[j]? = some t→(v.resultList f.resultTypes.size)[j]? = some r→Value.okWide P W' .any 0 t r) :
  s.post enc P f false fresh handsOn again W args v W':=by
 have hlt:=hW.lt
 refine⟨ds,gs,before,[],pa,pv,hW,hres _ _ _,hargs _ (fun p hp=>by simpa using hlt p hp),hvars _ (fun p hp=>by simpa using hlt p hp),World.keptBut_mono (fun p hp=>⟨hp,?_⟩) (hg.below.frame (·∈before)),fun _=>?_⟩
 ·rw[hps,List.mem_append]at hp
  exact Or.inr hp
 obtain⟨_,_,_,_,_,hz,hn⟩:=hW
 refine⟨hok,_,_,([]++pa)++pv,⟨[]++pa,pv,trodAll_append (hargs _ (fun _ _=>rfl)) (hres _ _ _),hvars _ (fun _ _=>rfl),rfl,?_,?_⟩,?_⟩
 ·intro b off hp
  have hm:MemPlace.cell b off∈before:=by rw[hps]; simpa using hp
  have h1:=hz b off hm
  rw[hg.below.frozen (hlt _ hm)]
  exact h1
 ·intro ha; cases ha
 intro p hp _
 rw[hps]
 simpa using hp
def lst:List (String×DataW Unit):=[("math/bits.deBruijn32tab", Rows.laid_math_bits_deBruijn32tab),("math/bits.deBruijn64tab", Rows.laid_math_bits_deBruijn64tab),("internal/strconv.uint64pow10", Rows.laid_internal_strconv_uint64pow10),("unicode/utf8.acceptRanges", Rows.laid_unicode_utf8_acceptRanges),("strconv.ErrRange", Rows.laid_strconv_ErrRange),("strconv.ErrSyntax", Rows.laid_strconv_ErrSyntax),("unicode/utf8.first", Rows.laid_unicode_utf8_first)]
theorem JmS{P:Program}{w:World}:∀ {l:List (String×DataW Unit)} {ps:List MemPlace},DataW.LaidVars P w l ps→∀ n d,(n,d)∈l →
  ∃ g t cs fuel p,P.globalNamed n=some g∧(P.globals[g]?).map (·.type)=some t∧w.var? P n=some cs∧DataW.trod (fun _=>()) P w 0 (fun _=>true) false fuel t cs.toList=some (d,p)∧∀ x∈MemPlace.row ⟨g,0,none⟩ cs.size,x∈ps
 | [],_,_,_,_,hm=>by cases hm
 | (n',d')::r,ps,h,n,d,hm=>by
  obtain⟨g,t,cs,fuel,p,q,h1,h2,h3,h4,h5,rfl⟩:=h
  rcases List.mem_cons.1 hm with e | e
  ·cases e
   exact⟨g,t,cs,fuel,p,h1,h2,h3,h4,fun x hx=>by simp[hx]⟩
  obtain⟨g',t',cs',fuel',p',k1,k2,k3,k4,k5⟩:=JmS h5 n d e
  exact⟨g',t',cs',fuel',p',k1,k2,k3,k4,fun x hx=>by simp[k5 x hx]⟩
theorem Jnw{w:World}(h:laidMet Tryz.prog lst w)(n:String)(d:DataW Unit)(hm:(n,d)∈lst)(g:Nat)(t:TypeId)(hg:Tryz.prog.globalNamed n=some g)(ht:(Tryz.prog.globals[g]?).map (·.type)=some t):
  ∃ cs fuel p,DataW.trod (fun _=>()) Tryz.prog w 0 (fun _=>true) false fuel t cs.toList=some (d,p)∧(0<cs.size→∃ ty,w.heap[g]? = some (.cells cs ty (0,0))):=by
 obtain⟨ps,hv,_,hc⟩:=h
 obtain⟨g',t',cs,fuel,p,k1,k2,k3,k4,k5⟩:=JmS hv n d hm
 obtain rfl:=Option.some.inj (hg.symm.trans k1)
 obtain rfl:=Option.some.inj (ht.symm.trans k2)
 refine⟨cs,fuel,p,k4,fun h0=>?_⟩
 obtain⟨⟨c,ty,e1⟩,_⟩:=hc g 0 (k5 _ (List.mem_map.2 ⟨0,List.mem_range.2 h0,rfl⟩))
 unfold World.var? at k3
 rw[hg]at k3
 simp only[Option.bind_some,e1,Option.some.injEq]at k3
 subst k3
 exact⟨ty,e1⟩
theorem Jxv{H:Type}{enc:TypeId×Value→H}{a:Assume}{C:Checked}{os:Os}{f:FuncId}{fn:Func}{s:ChangeSpec}{conds:List PathCond}{apart fresh handsOn again:Bool}{X:World→Array Value→Prop}
  (hX:∀ (w w':World) (args:Array Value),w.heap=w'.heap→X w args→X w' args)
  (own:ownKnob C.prog.godebug=none) (started:os.Started) (noInit:C.prog.inits.idxOf? f=none) (hfn:C.prog.funcs[f]? = some fn)
  (witness:∃ (w:World) (tape:Tape) (i:Input),w.os=os∧(w.forCall tape i).Shaped C.prog∧i.vars=[]∧Input.okWide C.prog (w.forCall tape i) .any w.heap.size f i ∧
   ((s.pre enc C.prog fn conds apart (w.forCall tape i).memory i.args∧X (w.forCall tape i).memory i.args)∧sizedMet enc C.prog fn (OpenSpec.ofChange s) apart (w.forCall tape i).memory i.args)∧a.holds C.prog (lone (Frame.enter C.prog f i.args .normal) [] (w.forCall tape i)))
  (contract:∀ (W:World) (base:Nat) (args:Array Value) (ds gs:List (DataW H)) (before:List MemPlace),
   (∀ (j:Nat) t v,fn.params[j]? = some t→args[j]? = some v→Value.okWide C.prog W .any base t v) →
   DataW.Whole enc C.prog fn.params.toList s.vars apart W args.toList ds gs before →
   (DataW.weightsEach C.prog (fn.params.toList++s.plain.varTypes C.prog) (ds++gs)).all (·≤reachBytes)=true→X W args→W.ShapedOpen C.prog →
   Calls C.prog f args W fun e W'=>∃ v,e=.returned v∧s.post enc C.prog fn apart fresh handsOn again W args v W') :
  ReturnsInHanded a C os f .any (fun w args=>(s.pre enc C.prog fn conds apart w args∧X w args)∧sizedMet enc C.prog fn (OpenSpec.ofChange s) apart w args) (s.post enc C.prog fn apart fresh handsOn again):=by
 refine returnsInHanded_of_calls own started noInit witness ?_
 intro w tape i _ hsh _ hok hpre _
 obtain⟨_,_,_,fn',hfn',_,_,_,_,hval⟩:=hok
 have e:fn'=fn:=Option.some.inj (hfn'.symm.trans hfn)
 subst e
 obtain⟨⟨⟨ds,gs,before,hw,hc⟩,hx⟩,hz⟩:=hpre
 have hw':=DataW.Whole.of_heap (w':=w.forCall tape i) (by rfl) hw
 refine(contract (w.forCall tape i) w.heap.size i.args ds gs before hval hw' (hz.weights hw) (hX _ _ _ (by rfl) hx) hsh).mono fun e W' ⟨v,he,hp⟩=>?_
 subst he
 exact ChangeSpec.post_blind hp
theorem Jxf{w:World}(h:laidMetH Tryz.prog lst w)(hsh:w.ShapedOpen Tryz.prog):GW w (fun _ _=>False):=by
 rw[MakeChecks.laidMetH_plain _ _ _ (by kernel_rfl)]at h
 have ifc:∀ (n nm:String) (d:DataW Unit) (g:Nat),(n,DataW.iface nm d)∈lst→Tryz.prog.globalNamed n=some g→(Tryz.prog.globals[g]?).map (·.type)=some 210 →
   ∃ cs ty,w.heap[g]? = some (.cells cs ty (0,0))∧(∃ v,cs[0]? = some v∧(v=.nilIface∨∃ t p,v=.iface t p))∧0<cs.size∧∀ o,o<cs.size→¬ False:=by
  intro n nm d g hm hg ht
  obtain⟨cs,fuel,p,k1,k2⟩:=Jnw h n _ hm g 210 hg ht
  obtain⟨_,u,v,e1,_,_⟩:=iface_of_trod Tryz.underlying210 k1
  have hs:cs.size=1:=by rw[← Array.length_toList,e1]; rfl
  obtain⟨ty,e2⟩:=k2 (by omega)
  refine⟨cs,ty,e2,⟨.iface u v,?_,Or.inr ⟨u,v,rfl⟩⟩,by omega,fun _ _ h=>h⟩
  rw[← Array.getElem?_toList,e1]; rfl
 intro q hq
 have hq:q∈Jir:=hq
 unfold Jir at hq
 rcases List.mem_cons.1 hq with rfl | hq
 ·obtain⟨cs,fuel,p,k1,k2⟩:=Jnw h "internal/strconv.uint64pow10" _ (List.mem_cons_of_mem _ (List.mem_cons_of_mem _ (List.mem_cons_self ..))) 0 145 (by kernel_rfl) (by kernel_rfl)
  have e1:=Lib.cells_of_tab (k:=.u64) (zs:=Lib.pow10Tab) Tryz.underlying145 Tryz.underlying116 (by kernel_rfl) (by kernel_rfl) k1
  have e2:cs=⟨Lib.pow10Tab.map fun z=>Value.int .u64 z⟩:=by rw[← e1]
  have hs:cs.size=20:=by rw[e2]; rfl
  obtain⟨ty,e3⟩:=k2 (by omega)
  refine⟨cs,ty,e3,?_,by omega,fun _ _ h=>h⟩
  show cs=_
  rw[e2]; rfl
 rcases List.mem_cons.1 hq with rfl | hq
 ·exact ifc "strconv.ErrSyntax" _ _ 6 (List.mem_cons_of_mem _ (List.mem_cons_of_mem _ (List.mem_cons_of_mem _ (List.mem_cons_of_mem _ (List.mem_cons_of_mem _ (List.mem_cons_self ..)))))) (by kernel_rfl) (by kernel_rfl)
 rcases List.mem_cons.1 hq with rfl | hq
 ·exact ifc "strconv.ErrRange" _ _ 7 (List.mem_cons_of_mem _ (List.mem_cons_of_mem _ (List.mem_cons_of_mem _ (List.mem_cons_of_mem _ (List.mem_cons_self ..))))) (by kernel_rfl) (by kernel_rfl)
 rcases List.mem_cons.1 hq with rfl | hq
 ·obtain⟨cs,hh,hs,_⟩:=hsh.1 5 #[.int .i64 0] 3 (of_decide_eq_true (by kernel_rfl)) (by kernel_rfl)
  obtain⟨m,hm⟩:=Go.Proofs.cell_of_shapedOpen_int (g:=5) (t:=3) (zero:=#[.int .i64 0]) (k:=.i64) hsh (of_decide_eq_true (by kernel_rfl)) (by kernel_rfl) rfl (by kernel_rfl) (by kernel_rfl) Tryz.underlying3
  simp only[World.cell?,hh]at hm
  exact⟨cs,3,hh,⟨m,hm⟩,by rw[hs]; decide,fun _ _ h=>h⟩
 cases hq
end Go.Proofs.YtfkhlbhjhdpkoaaGreatDoor
